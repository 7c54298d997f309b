/- Own work; no condition. -/
import Derived.Test.YtceihkmakfdcnaaGreatC11
import Derived.Test.YtceihkmakfdcnaaGreatC9
import Derived.Test.YtceihkmakfdcnaaGreatC10
import Derived.Test.YtceihkmakfdcnaaGreatC7
set_option linter.all false
set_option maxHeartbeats 16000000
set_option maxRecDepth 100000
noncomputable section
open Bool renaming false->ah
open Classical renaming choose->Ak
open Go.El renaming cS->e,rr->U,re->M,bI->h,cI->c,rb->R,jz->w,NB->F
open Go.Proofs.Tryz renaming prog->O
open Int renaming toNat->af,natAbs->aC,natAbs_mul_self'->au9
open List renaming getD->I,length->Z,range->bJ,take->r
open List.Pairwise renaming nil->Ir
open Rat renaming divInt->kQ
open _root_ renaming Rat->L,List->E,Int->V,Nat->G
namespace Go.El
open Go Go.Proofs
def hJ(a:L):E L:=gI [a]
def RQ a:w O 44 [aQ a] (e .q<|hJ a):=by refine aK Tryz.func44 ?_;exact U J<|R<|rl .q [_] J J (rc J J (EV [a] YI)<|M J<|cN J)
def eW(a b:E L):E L:=oA a<|dJ ((-1:V):L) b
def Cp a b i:I (eW a b) i 0=I a i 0-I b i 0:=by rw[eW,RL,vF,show(((-1:V)):L)= -1 from J];grind
def ah5{k}a b(m:Z a<=1000)(f:Z b<=1000)(n:∀i,QS k (I a i 0))(g:∀i,QS k (I b i 0))(l:1<=k)(v:k<=200000000000):w O 117 [e .q a,e .q b] (e .q<|eW a b):=by
 have p:QS k (((-1:V)):L):=⟨(aJ.one (a:= -1) S).le l,(aJ.one (a:=1) S).le l⟩;have t:∀i,QS k (I (dJ ((-1:V):L) b) i 0):=λi=>by rw[vF,show(((-1:V)):L)*I b i 0= -(I b i 0)by rw[show(((-1:V)):L)= -1 from J];grind];exact(g i).neg
 have u:Z (dJ ((-1:V):L) b)<=1000:=br (ES _) (by simp;exact f);refine aK Tryz.func117 ?_;exact U J<|R<|rc J J (nH (-1) S S)<|rc J J (Md (((-1:V)):L) b f p g Y)<|rc J J (RK a _ m u n t Y)<|M J<|cN J
def Im(a:E L)(b:a≠[])(d:Z a<=1000):w O 83 [e .q a] (aQ<|I a (Z a-1) 0):=by have f:=cF.2 b;refine aK Tryz.func83 ?_;refine U J<|U J (hp:=aH)<|cv J ?_;rw[(Y:Z a-1=af ((Z a:V)-1))];rfl
def ah6{k}a(g:a≠0)(b:QS k a)(i:k<=500000000000):w O 82 [aQ a] (.t [(true,av .q a⁻¹),(ah,[.I .i64 0])]):=by have e:kQ (a.den:V) a.num=a⁻¹ :=(Rat.inv_def a).symm;have f:=Yt (a.den:V) a.num (λe=>g<|vD e) (b.d.sm Y)<|b.n.sm Y;rw[e]at f;refine aK Tryz.func82 ?_;exact U J<|bQ J J f J<|cN J
def ah7{a}(b:a≠[]):dA a=dJ (I a (Z a-1) 0)⁻¹ a:=by refine Rx.nP (Rx.qC a) (Rx.jV _) ?_;rw[Rx.vE b,xj]
def Me{k}a(g:Z a<=1000)(f:∀i,QS k (I a i 0))(l:a≠[]->I a (Z a-1) 0≠0)(s:k<=200000000000):w O 29 [e .q a] (e .q<|dA a):=by
 refine aK Tryz.func29 ?_;refine U J<|h<|U J<|F J (λb=>?_)<|λb=>aE ?_
 .have b:(Z a:V)=0:=dw b;rw[gx (by omega:Z a=0)];exact U J<|bX<|cY<|iX cq J<|bu.nil _
 .have d:a≠[]:=λn=>by subst n;cases b
  have m:=Md (I a (Z a-1) 0)⁻¹ a g ((f<|Z a-1).inv<|l d) f Y;rw[<-ah7 d]at m;exact R<|rc J J (Im a d g)<|rc J J (ah6 _ (l d) (f _) Y)<|M J<|bQ J J m J<|cN J
def ah8{k}a(u:Z a<=1000)(m:∀i,QS k (I a i 0))(g:1<=k)(v:k<=200000000000):w O 132 [e .q a] (e .q<|qB a):=by
 refine aK Tryz.func132 ?_;obtain⟨b,l⟩:∃b:G->L,b=λi=>(((i+1:G):V):L)*I a (i+1) 0:=⟨_,J⟩
 have n:qB a=(bJ<|Z a-1).map b:=by rw[l];rfl
 rw[n];refine U J<|R<|gV .q [] J J (M J<|h<|U J<|ay<|bq (α:=G) (λi=>⟨[(0,e .q a),(3,.c<|.X 1000000),(4,c ((i+1:G):V))],[(1000000,.vec 44 .q<|(bJ i).map b)],3,[]⟩) (λi=>i<=Z a-1) (λi=>Z a-i) 0 (bg _) aN ?_);intro i x;have p:Z ((bJ i).map b)=i:=au;refine h<|U J<|F J (λd=>?_)<|λd=>?_
 .have d:i+1<Z a:=by have d:((i+1:G):V)<(Z a:V):=aV d;omega
  have s:QS k ((((i+1:G):V)):L):=⟨(aJ.one (a:=((i+1:G):V)) Y).le g,(aJ.one (a:=1) S).le g⟩;have f:=ER ((((i+1:G):V)):L) (I a (af<|((i+1:G):V)) 0) s (m _) Y;have t:((((i+1:G):V)):L)*I a (af<|((i+1:G):V)) 0=b i:=by rw[l,cC]
  rw[t]at f;refine aE<|h<|ay<|cG<|rc J J (nH ((i+1:G):V) Y Y)<|rc J J f (rl .q [b i] J J (ra J J J J J J J J J ?_ ?_<|M J ?_)) (hp:=aH)
  .show(Z ((bJ i).map b)+1+(Z ((bJ i).map b)+1)/4+192)*64<=_;omega
  .show(Z ((bJ i).map b)+1)*4<=_;omega
  refine bP<|rt J (hp:=aH)<|a4 (i+1) (Y:i+1<=Z a-1) ri<|Wk.trans (wk (st':=⟨[(0,e .q a),(3,.c<|.X 4009000),(4,c ((i+1+1:G):V))],[(4009000,.vec 44 .q<|(bJ<|i+1).map b)],20,[]⟩) (bK J) ⟨bE J ?_,j⟩)<|Wk.trans (gZ 1000000 4009000 J J J) aN;rw[Il]
 .have d:i=Z a-1:=by have d:¬((i+1:G):V)<(Z a:V):=bc d;omega
  subst d;exact oJ<|sf<|pB<|oK<|aS<|dv 1000000 J J J<|U J<|bX<|atR J
open Rx
def YJ a i:I (hJ a) i 0=if i=0 then a else 0:=by
 rw[hJ,EW];cases i with
 |zero=>rfl
 |succ i=>simp
def RR a:I (kz a) 0 0=0:=by rw[YB];rfl
def RS a i:I (kz a) (i+1) 0=I a i 0:=by rw[YB];rfl
structure ux(a b:E L)(n m c:G)(q r:E L):Prop where
 qc:bp q
 rc:bp r
 qg:∀i,q.getD i 0=if i<c-n then(eF (b.getD n 0)⁻¹ a b n m (c-n)).1.getD (a.length-c+i) 0 else 0
 rg:∀i,r.getD i 0=if i<min c n then(eF (b.getD n 0)⁻¹ a b n m (c-n)).2.getD (a.length-c+i) 0 else 0
def Io{a}{n}(b:bp a)(f:∀i,n<=i->I a i 0=0):Z a<=n:=fe λd=>by
 rcases b with b|b
 .rw[b]at d;exact d<|bg _
 .exact b<|f _ Y
def auq{a:E L}{n}(b:I a n 0≠0):n<Z a:=fe λd=>b<|fP a Y
def ah9 a b:bp (oA a b):=jV _
def ah'{inv:L}{a b:E L}{n m:G}(f:Z a=n+m)(g:Z b=n+1):∀d,d<=m->∀i,i<m-d->(eF inv a b n m d).2.getD i 0=I a i 0
 |0,_,_,_=>rfl
 |d+1,k,i,l=>by rw[eF];show I (kS _ _ b<|m-1-d) i 0=_;rw[kS,xi (by rw[(As inv a b n m d).2];omega),y Y];exact ah' f g d Y i Y
def YK(a:E L)(x:L):∀i,I (oA (kz a)<|hJ x) i 0=if i=0 then x else I a (i-1) 0
 |0=>by rw[RL,RR,YJ,q J,q J,Ep]
 |i+1=>by rw[RL,RS,YJ,y Y,y Y,nM];rfl
def ux.start a b n m:ux a b n m 0 [] []:=
 ⟨ug,ug,λi=>by rw[y Y];rfl,λi=>by rw[y Y];rfl⟩
section
variable{a b q r:E L}{n m c:G}
def ux.r1(f:ux a b n m c q r)(g:Z b=n+1)(p:m=Z a-n)(s:c<Z a) i:
  I (oA (kz r)<|hJ<|I a (Z a-1-c) 0) i 0=if i<min (c+1) (n+1)then(eF (I b n 0)⁻¹ a b n m (c-n)).2.getD (Z a-(c+1)+i) 0 else 0:=by
 rw[YK]
 have k:(eF (I b n 0)⁻¹ a b n m (c-n)).2.getD (Z a-(c+1)) 0=I a (Z a-1-c) 0:=by
  rw[(Y:Z a-(c+1)=Z a-1-c)];by_cases l:c<n
  .rw[(Y:c-n=0)];rfl
  .exact ah' Y g _ Y _ Y
 cases i with
 |zero=>rw[g5 J,g5 Y,jZ,k]
 |succ i=>
  rw[y Y,eL,f.rg]
  by_cases d:i<min c n
  .rw[g5 d,g5 Y,(Y:Z a-(c+1)+(i+1)=Z a-c+i)]
  .rw[y d,y Y]
def ux.step(v:ux a b n m c q r)(H:Z b=n+1)(N:m=Z a-n)(P:I b n 0≠0)(Q:c<Z a){s}(B:s=oA (kz r) (hJ<|I a (Z a-1-c) 0)):
  (Z s=n+1->ux a b n m (c+1) (oA (kz q)<|hJ<|I s n 0/I b n 0) (eW s<|dJ (I s n 0/I b n 0) b))/\(Z s≠n+1->ux a b n m (c+1) (kz q) s)/\Z s<=n+1:=by
 have f:=v.r1 H N Q
 rw[<-B]at f
 have g:bp s:=by rw[B];exact ah9 _ _
 have K:Z s<=min (c+1) (n+1):=Io g λi k=>by rw[f,y Y]
 by_cases T:c<n
 .refine⟨λe=>Y,λ_=>⟨jV _,g,λi=>?_,λi=>?_⟩,Y⟩
  .rw[y Y];cases i with
   |zero=>exact RR q
   |succ i=>rw[RS,v.qg,y Y]
  .rw[f,(Y:c+1-n=c-n)];by_cases k:i<c+1
   .rw[g5 Y,g5 Y]
   .rw[y Y,y Y]
 obtain⟨j,o⟩:∃j,c=n+j:=⟨c-n,Y⟩
 have W:c-n=j:=Y
 have l:c+1-n=j+1:=Y
 have p:=v.qg
 rw[W]at f p
 have d:=As (I b n 0)⁻¹ a b n m j
 have x:eF (I b n 0)⁻¹ a b n m (j+1)=((eF (I b n 0)⁻¹ a b n m j).1.set (m-1-j)<|(eF (I b n 0)⁻¹ a b n m j).2.getD (m-1-j+n) 0*(I b n 0)⁻¹,kS (eF (I b n 0)⁻¹ a b n m j).2 (-((eF (I b n 0)⁻¹ a b n m j).2.getD (m-1-j+n) 0*(I b n 0)⁻¹)) b<|m-1-j):=rfl
 have u:I s n 0=(eF (I b n 0)⁻¹ a b n m j).2.getD (m-1-j+n) 0:=by rw[f,g5 Y,(Y:Z a-(c+1)+n=m-1-j+n)]
 rw[<-u,<-s']at x
 generalize ht:I s n 0/I b n 0=t at*
 have z:t*I b n 0=I s n 0:=by rw[<-ht,Rat.div_mul_cancel P]
 have hQ:∀i,I (oA (kz q)<|hJ t) i 0=if i<c+1-n then(eF (I b n 0)⁻¹ a b n m (c+1-n)).1.getD (Z a-(c+1)+i) 0 else 0:=λi=>by
  rw[YK,l,x];show _=if i<j+1 then I ((eF (I b n 0)⁻¹ a b n m j).1.set (m-1-j) t) (Z a-(c+1)+i) 0 else 0
  rw[EO _ _ (by rw[d.1];omega)];cases i with
  |zero=>rw[g5 J,g5 Y,g5 Y]
  |succ i=>
   rw[y Y,eL,p]
   by_cases k:i<j
   .rw[g5 k,g5 Y,y Y,(Y:Z a-(c+1)+(i+1)=Z a-c+i)]
   .rw[y k,y Y]
 have C:∀i,I (eW s<|dJ t b) i 0=if i<min (c+1) n then(eF (I b n 0)⁻¹ a b n m (c+1-n)).2.getD (Z a-(c+1)+i) 0 else 0:=λi=>by
  rw[Cp,vF,l,x,f];show _=if i<min (c+1) n then I (kS (eF (I b n 0)⁻¹ a b n m j).2 (-t) b<|m-1-j) (Z a-(c+1)+i) 0 else 0
  by_cases k:i<n
  .rw[g5 Y,g5 Y,kS,xi (by rw[d.2];omega),g5 Y,(Y:Z a-(c+1)+i-(m-1-j)=i)];grind
  .rw[y (by omega:¬i<min (c+1) n)];by_cases e:i=n
   .subst e;rw[g5 Y,z,f,g5 Y];grind
   .rw[y Y,fP b Y];grind
 refine⟨λ_=>⟨ah9 _ _,jV _,hQ,C⟩,λX=>?_,Y⟩
 have A:I s n 0=0:=fe λA=>by have:=auq A;omega
 have D:t=0:=by rw[<-ht,A,s',mF]
 refine⟨jV _,g,λi=>?_,λi=>?_⟩
 .rw[<-hQ,YK,D];cases i with
  |zero=>rw[RR,g5 J]
  |succ i=>rw[RS,y Y];rfl
 .rw[<-C,Cp,vF,D];grind
def aur(g:ux a b n m (Z a) q r)(p:Z b=n+1)(l:m=Z a-n):q=cV a b:=by
 have d:Z b-1=n:=Y;have f:Z a+1-Z b=m:=Y;refine nP g.qc (Av a b)<|ext λi=>?_;rw[dN,dN,g.qg,cV,d,f,<-l];by_cases k:i<m
 .rw[g5 k,y Y,EW,kg,fD]
 .rw[y k];split
  .rfl
  .rw[EW,fP _<|by rw[(As ..).1];omega]
def aus(k:ux a b n m (Z a) q r)(s:Z b=n+1)(l:m=Z a-n)(p:bp a):r=bZ a b:=by
 have d:Z b-1=n:=Y;have f:Z a+1-Z b=m:=Y;refine nP k.rc (oZ p)<|ext λi=>?_;rw[dN,dN,k.rg,bZ,d,f,<-l,kg,fD];by_cases hl:Z a<Z b
 .rw[g5 hl];by_cases g:i<Z a
  .rw[g5 Y,(Y:m=0)];rfl
  .rw[y Y,fP a Y]
 .rw[y hl,EW,Ij];by_cases g:i<n
  .rw[g5 Y,g5 g]
  .rw[y Y,y g]
def aia{s:G}(l:1<=s){inv:L}(f:QS s inv)(g:∀d,d<=m->∀i,QS s ((eF inv a b n m d).2.getD i 0)):∀d,d<=m->∀i,QS (2*s) ((eF inv a b n m d).1.getD i 0)
 |0,_,i=>by
  rw[eF,aO,nG];have:QS (2*s) 0:=QS.zero Y;by_cases k:i<m
  .rw[g5 k];exact this
  .rw[y k];exact this
 |d+1,p,i=>by
  rw[eF];show QS _ (I ((eF inv a b n m d).1.set _ _) i 0);rw[EO _ _ (by rw[(As ..).1];omega)];split
  .exact(g d Y _).mul f
  .exact aia l f g d Y i
def aut(d:bp a)(f:a≠[]):I a (Z a-1) 0≠0:=d.resolve_left f
end
def aib{s}(N:1<=s)(hs:s<=50000000000){a b}(hac:bp a)(P:b≠[])(D:Au s a b):w O 121 [e .q a,e .q b] (.t [(ah,[.S .q (cV a b)]),(ah,[.S .q (bZ a b)]),(ah,[.I .i64 0])]):=by
 have JH:=cF.2 P;obtain⟨n,H⟩:∃n,Z b=n+1:=⟨Z b-1,Y⟩;obtain⟨m,hm⟩:∃m,m=Z a-n:=⟨_,J⟩;have v:=D.bn;have K:=D.qS;rw[(Y:Z b-1=n)]at v K;rw[(Y:Z a+1-Z b=m)]at K;have la:=D.la;have lb:=D.lb;have qb:=D.qb;have qa:∀i,QS s (I a i 0):=K 0<|bg _;have Q:QS s (I b n 0)⁻¹ :=(qb n).inv v;have T:∀{k:G},1<=k->QS k (0:L):=λf=>QS.zero f
 have key:∀{d:G}{q r:E L},d<=Z a->ux a b n m d q r->(∀i,QS (2*s) (I q i 0))/\(∀i,QS s (I r i 0))/\Z q<=500/\Z r<=500:=λ{d q r} hc g=>by
  refine⟨λi=>?_,λi=>?_,?_,?_⟩
  .rw[g.qg];split
   .exact (aia N Q K) _ Y _
   .exact T Y
  .rw[g.rg];split
   .exact K _ Y _
   .exact T N
  .have:=Io (n:=d-n) g.qc λi hi=>by rw[g.qg,y Y]
   omega
  .have:=Io (n:=min d n) g.rc λi hi=>by rw[g.rg,y Y]
   omega
 have W:∀{k:G}{l:E L},1<=k->(∀i,QS k (I l i 0))->∀i,QS k (I (kz l) i 0):=λ{k l} hk f i=>by
  cases i with
  |zero=>rw[RR];exact T hk
  |succ i=>rw[RS];exact f i
 have X:∀{k:G}{x:L},1<=k->QS k x->∀i,QS k (I (hJ x) i 0):=λ{k x} hk f i=>by
  rw[YJ];split
  .exact f
  .exact T hk
 have o:∀l:E L,Z (kz l)<=Z l+1:=λl=>br (ES _) RJ
 have oF:∀x:L,Z (hJ x)<=1:=λx=>br (ES _) YI
 refine aK Tryz.func121 ?_;refine U J<|h<|U J<|F J (λf=>?_)<|λf=>aE ?_
 .have f:(Z b:V)=0:=dw f;exact aF f Y
 refine R<|rl .q [] J J (M J<|R<|rl .q [] J J (M J<|h<|U J<|ay<|bq (α:=G×E L×E L) (λu=>⟨[(0,e .q a),(1,e .q b),(7,e .q u.2.1),(8,e .q u.2.2),(9,c<|(Z a:V)-1-u.1)],[],20,[]⟩) (λu=>u.1<=Z a/\ux a b n m u.1 u.2.1 u.2.2) (λu=>Z a-u.1) (0,[],[]) ⟨bg _,ux.start a b n m⟩ (wk ⟨sR J,sR J,sR J,sR J,sE J ?_,j⟩ j) ?_))
 .exact bm c (Y:(Z a:V)-1=(Z a:V)-1-(0:G))
 rintro⟨d,q,r⟩ ⟨c1,g⟩;simp only at c1 g;let ⟨q1,r1,q2,r2⟩:=key c1 g;refine h<|U J<|F J (λf=>?_)<|λf=>?_
 .have f:d<Z a:=by have f:(Z a:V)-1-d>=0:=aV f;omega
  have ei:af ((Z a:V)-1-d)=Z a-1-d:=Y;let ⟨S1,S2,S3⟩:=g.step H hm v f J;have z:∀i,QS s (I (oA (kz r)<|hJ<|I a (Z a-1-d) 0) i 0):=λi=>by
   rw[g.r1 H hm f];split
   .exact K _ Y _
   .exact T N
  have A:=RQ<|I a (af<|(Z a:V)-1-d) 0;have B:=RK (kz r) (hJ<|I a (af<|(Z a:V)-1-d) 0) (kw<|o r) (kw<|oF<|I a (af<|(Z a:V)-1-d) 0) (W N r1) (X N<|qa _) Y;rw[ei]at A B;generalize hsE:oA (kz r) (hJ<|I a (Z a-1-d) 0)=S at*;rw[<-ei]at A B;refine aE<|h<|ay<|R<|rc J J (YA r Y)<|rc J J A (rc J J B<|M J<|bQ J J (YA q Y) J<|U J<|F J (λC=>?_)<|λC=>di ?_) (hp:=aH)
  .have C:(Z S:V)=(Z b:V):=dw C;have p:Z S=n+1:=Y;have KP:S≠[]:=λcH=>by rw[cH]at p;cases p
   have EZ:=ahR (I S (Z S-1) 0) (I b (Z b-1) 0) (λcH=>D.bn<|vD cH) (z _) (qb _) Y;rw[p,H,eL]at EZ;have RT:=Im S KP Y;have YL:=Im b P Y;rw[p,eL]at RT;rw[H,eL]at YL;have ht:QS (2*s) (I S n 0/I b n 0):=by rw[s'];exact(z n).mul Q
   generalize I S n 0/I b n 0=t at*;have Xp:=ah5 (k:=4*s) S (dJ t b) Y (br (ES _) cd) (λi=>(z i).le Y) (λi=>by rw[vF];exact(ht.mul<|(qb i).le Y).le Y) Y Y;exact R<|rc J J RT<|rc J J YL<|rc J J EZ<|M J<|R<|rc J J (Md t b Y ht (λi=>(qb i).le Y) Y)<|rc J J Xp<|M J<|cG<|rc J J (RQ t)<|rc J J (RK (kz q) (hJ t) (kw<|o q) (kw<|oF t) (W Y q1) (X Y ht) Y)<|M J<|bP<|rt J (hp:=aH)<|a4 (d+1,oA (kz q)<|hJ t,eW S<|dJ t b) ⟨f,S1 p⟩ (Y:Z a-(d+1)<Z a-d)<|wk ⟨sR J,sR J,sR J,sR J,sE J<|bm c (Y:(Z a:V)-1-d-1=(Z a:V)-1-(d+1:G)),j⟩ j
  .have C:Z S≠n+1:=λcH=>by have C:(Z S:V)≠(Z b:V):=pN C;omega
   exact bP<|rt J (hp:=aH)<|a4 (d+1,kz q,S) ⟨f,S2 C⟩ (Y:Z a-(d+1)<Z a-d)<|wk ⟨sR J,sR J,sR J,sR J,sE J<|bm c (Y:(Z a:V)-1-d-1=(Z a:V)-1-(d+1:G)),j⟩ j
 .have f:d=Z a:=by have f:¬(Z a:V)-1-d>=0:=bc f;omega
  subst f;rw[aur g H hm,aus g H hm hac];exact bs<|aS<|U J<|cN J
def Mf{s}(g:1<=s)(i:s<=50000000000){a b}(d:bp a)(f:b≠[])(k:Au s a b):w O 116 [e .q a,e .q b] (e .q<|cV a b):=by refine aK Tryz.func116 ?_;exact U J<|bQ J J (aib g i d f k) J<|U J<|cN J
def Cq{s}(g:1<=s)(i:s<=50000000000){a b}(d:bp a)(f:b≠[])(k:Au s a b):w O 66 [e .q a,e .q b] (e .q<|bZ a b):=by refine aK Tryz.func66 ?_;exact U J<|bQ J J (aib g i d f k) J<|U J<|cN J
def auv{s}(z:1<=s)(A:s<=50000000000) k a b(B:bp a)(D:bp b)(H:Cj s k a b)(N:Z (fX k a b)<=1000)(P:∀i,QS s (I (fX k a b) i 0)):w O 131 [e .q a,e .q b] (e .q<|dA<|fX k a b):=by
 refine aK Tryz.func131 ?_;refine U J<|h<|ay<|bq (α:=G×E L×E L) (λx=>⟨[(0,e .q x.2.1),(1,e .q x.2.2)],[],2,[]⟩) (λx=>Cj s x.1 x.2.1 x.2.2/\fX x.1 x.2.1 x.2.2=fX k a b/\bp x.2.1/\bp x.2.2) (λx=>x.1) (k,a,b) ⟨H,J,B,D⟩ aN ?_;rintro⟨m,f,g⟩ ⟨h2,d,t,n⟩;simp only at h2 d t n;refine h<|U J<|F J (λl=>?_)<|λl=>?_
 .have p:g≠[]:=λC=>by subst C;cases l
  clear l;cases m with
  |zero=>exact aF h2 p
  |succ m=>
   rw[Cj]at h2
   rcases h2 with h2|⟨h2,K⟩
   .exact aF h2 p
   rw[fX,y p]at d
   have Q:=nS (a:=f) p
   have W:=h2.lb
   refine di<|aS<|ay<|R<|rc J J (Cq z A t p h2)<|rc J J (Me (bZ f g) Y h2.qr h2.rn Y)<|M J<|U J<|rt J<|fF<|a4 (m,g,dA<|bZ f g) ⟨K,d,n,qC _⟩ (dV m) aN
 .have l:g=[]:=by have l:¬(Z g:V)>0:=bc l;exact gx Y
  subst l;have d:f=fX k a b:=by
   cases m with
   |zero=>exact d
   |succ m=>rwa[fX,q J]at d
  rw[d]at t⊢;exact oJ<|sf<|pB<|oK<|aS<|R<|rc J J (Me _ N P (λT=>aut t T) Y)<|M J<|bX<|atR J
def Rx.Ht.mul{a N n}{A B}(g:Ht a A)(k:Ht N B)(Q:sz A<=n)(l:1<=n):Ht (n*(a*N)) (A*B):=by
 let ⟨D,b,h2,m⟩:=g;let ⟨E,p,s,x⟩:=k;refine⟨D*E,B5 b p,br (tj h2 s)<|Qu _ l,λi=>?_⟩;rw[fM];have d:∀t,∃z:V,aC z<=min t n*(a*N)/\((D*E:V):L)*sq (λj=>A j*B (i-j)) t=(z:L):=by
  intro t;induction t with
  |zero=>exact⟨0,bg _,by rw[sq];exact eh _⟩
  |succ t C=>
   let ⟨y,H,f⟩:=C
   by_cases c:t<n
   .let ⟨u,u1,u2⟩:=m t;let ⟨v,v1,v2⟩:=x<|i-t;refine⟨y+u*v,?_,?_⟩
    .have T:=tj u1 v1;rw[(Y:min (t+1) n=min t n+1),gY,je];omega
    .rw[sq,Rat.mul_add,f,Rat.intCast_add,g7,g7,<-u2,<-v2];grind
   .refine⟨y,by rw[(Y:min (t+1) n=min t n)];exact H,?_⟩;have:A t=0:=lE Y;rw[sq,this,mF,nM];exact f
 let ⟨z,K,P⟩:=d<|i+1;exact⟨z,br K<|dS _<|Nat.min_le_right _ _,P⟩
def Rx.Ht.neg{a}{A}(b:Ht a A):Ht a (-A):=by let ⟨D,d,h2,f⟩:=b;refine⟨D,d,h2,λi=>?_⟩;let ⟨z,k,g⟩:=f i;exact⟨-z,Y,by rw[Lc,EX,<-g];grind⟩
def Rx.Ht.add{a N}{A B}(b:Ht a A)(k:Ht N B):Ht (2*(a*N)) (A+B):=by have:=Ht.sub b k.neg;rwa[fB,Rx.neg_neg]at this
structure Pz(n t:G)(a:E L):Prop where
 can:bp a
 len:a.length<=n
 ht:Ht (2^t) (lx a)
def Pz.le{n m t u}{a}(b:Pz n t a)(d:n<=m)(f:t<=u):Pz m u a:=⟨b.can,br b.len d,b.ht.le<|dD S f⟩
def Pz.qs{n t s}{a}(b:Pz n t a)(d:t<32*s) i:QS s (I a i 0):=b.ht.qs (mO d) i
def Pz.nil n t:Pz n t []:=⟨ug,bg _,by rw[ku];exact Ht.zero<|gG S⟩
def Mg t u v:2^v*(2^t*2^u)=2^(t+u+v):=by rw[<-jm,<-jm];congr 1;omega
def Cs a b:lx (eW a b)=lx a-lx b:=ext λi=>by rw[nK];exact Cp a b i
def Pz.sub{n m t u}{a b}(d:Pz n t a)(k:Pz m u b):Pz (max n m) (t+u+1) (eW a b):=by
 refine⟨jV _,?_,?_⟩
 .have:=d.len;have:=k.len;refine br (uw _) ?_;rw[dj,sY];have e:=uw<|(bJ<|Z b).map λi=>((-1:V):L)*I b i 0;rw[dj,sY]at e;show max (Z a) (Z<|dJ _ b)<=_;have:Z (dJ ((-1:V):L) b)<=Z b:=e;omega
 .rw[Cs,<-Mg];exact d.ht.sub k.ht
def Pz.Ax{n t u}{a}{b}(d:Pz n t a)(k:Ht (2^u) (K b)):Pz n (t+u) (dJ b a):=by
 refine⟨jV _,?_,?_⟩
 .have:=d.len;refine br (uw _) ?_;rw[dj,sY];omega
 .rw[xj,jm];exact d.ht.smul k
def ml(a b:E L):E L:=lH a b<|Z a
def uy a b:lx (ml a b)=lx a*lx b:=by rw[ml,YD a _ _<|aL _,kg,sr]
def uz a b:bp (ml a b):=aum a b<|Z a
def aic b:ml [] b=[]:=rfl
def aid a:ml a []=[]:=nP (uz _ _) ug (by rw[uy,ku,Rx.g6])
def aie{a b}(d:bp a)(f:bp b)(g:a≠[])(i:b≠[]):Z (ml a b)+1=Z a+Z b:=by have:=eS (Ck d g)<|Ck f i;rwa[<-uy,fj<|uz a b,fj d,fj f]at this
def Ip{a b}(f:bp a)(g:bp b):Z (ml a b)<=Z a+Z b-1:=by
 by_cases a0:a=[]
 .subst a0;rw[aic];exact bg _
 .by_cases d:b=[]
  .subst d;rw[aid];exact bg _
  .have:=aie f g a0 d;omega
def Pz.mul{n m t u}{a b}(d:Pz n t a)(k:Pz m u b)(f:n<=16):Pz (n+m-1) (t+u+4) (ml a b):=by
 refine⟨uz a b,?_,?_⟩
 .have:=Ip d.can k.can;have:=d.len;have:=k.len;omega
 .rw[uy,<-Mg];refine(d.ht.mul k.ht (n:=2^4) ?_ S);rw[fj d.can];have:=d.len;omega
def auw a b:ml a b=ml b a:=nP (uz _ _) (uz _ _) (by rw[uy,uy,Rx.dk])
def Pz.rem{n m t u d}{a b}(f:Pz n t a)(k:Pz m u b)(g:b≠[])(i:Z a+1-Z b<=d):Pz m (t+(u+1)*d) (bZ a b):=
 ⟨oZ f.can,br (ye<|nS g) k.len,(EY k.can g f.ht k.ht).2.1.le<|dD S<|RN (gD _ i) _⟩
def Pz.quo{n m t u d}{a b}(g:Pz n t a)(k:Pz m u b)(i:b≠[])(f:Z a+1-Z b<=d):Pz d (t+(u+1)*d) (cV a b):=
 ⟨Av _ _,br (Ik a b) f,(EY k.can i g.ht k.ht).1.le<|dD S<|RN (gD _ f) _⟩
def Pz.aM{n t}{a}(b:Pz n t a):Pz n t (dA a):=⟨qC _,by rw[EU b.can];exact b.len,YE b.can b.ht⟩
def Pz.xk{n m t u d s}{a b}(f:Pz n t a)(k:Pz m u b)(g:b≠[])(p:Z a+1-Z b<=d)(v:n<=500)(x:m<=500)(B:t+u+(u+1)*d<32*s):Au s a b:=by
 have q:=EY k.can g f.ht k.ht;have le:2^(t+(u+1)*(Z a+1-Z b))<=2^(t+(u+1)*d):=dD S<|RN (gD _ p) _;have l:t+(u+1)*d<32*s:=Y;refine⟨br f.len v,br k.len x,k.can.ne g,λi=>k.qs Y i,λj z i=>?_,λA=>(oZ f.can).ne A,λi=>(q.2.1.le le).qs (mO l) i⟩;by_cases hl:Z b<=Z a
 .exact((q.2.2 hl j z).le le).qs (mO l) i
 .have:j=0:=by omega
  subst this;exact f.qs Y i
def aif{a b m}(d:bp a)(f:bp b)(g:bp m)(k:m≠[])(l:Z a<Z m)(n:Z b<Z m)(i:lx m∣lx a-lx b):a=b:=by refine nP d f<|BZ<|ui i ?_;rw[fj g];have:=HY (lx a)<|lx b;rw[fj d,fj f]at this;omega
def RX{a m:E L}(b:bp m)(d:m≠[]):lx m∣lx (bZ a m)-lx a:=by refine m9 ?_;rw[Cm (a:=a) b d,Rx.z9];exact jc _ _
def aih{a b m}(g:bp a)(i:bp b)(f:bp m)(d:m≠[])(k:Z b<Z m)(l:lx m∣lx a-lx b):bZ a m=b:=
 aif (oZ g) i f d (nS d) k (mJ (RX f d) l)
abbrev U8:ET:= .int .u8
abbrev RW:ET:= .pr I8<|.pr I8 U8
def mP(k:V):V:=4611686018427387904+k
def Ct(x:V×V×V):V:=if x.2.2%8=7 then x.1*mP x.2.2*mP x.2.2+x.2.2 else x.1
def qD(d:V):V:=if d=0 then 1 else d
def yD(x:V×V×V):V:=if x.2.2%8=6 then qD x.2.1*mP x.2.2*mP x.2.2 else qD x.2.1
def tk(x:V×V×V):L:=kQ (Ct x)<|yD x
def o0(x:V×V×V):Prop:=(-128<=x.1/\x.1<=127)/\(-128<=x.2.1/\x.2.1<=127)/\0<=x.2.2/\x.2.2<=255
def aii d:qD d≠0:=by unfold qD;split<;>omega
def aij{x}(a:o0 x):0<mP x.2.2/\mP x.2.2<4611686018427388160:=by unfold mP;have:=a.2.2;omega
def YM{x}(a:o0 x):yD x≠0:=by
 unfold yD;split
 .have:=(aij a).1;exact B5 (B5 (aii _) Y) Y
 .exact aii _
def Mh{x}(a:o0 x):aJ 2 (mP x.2.2):=by have:=aij a;unfold aJ;omega
def YN{x}(a:o0 x):aJ 1 (qD x.2.1):=aJ.one (by unfold qD;have:=a.2.1;split<;>omega)
def aik{x}(h:o0 x):aJ 6 (Ct x):=by
 unfold Ct;have b:aJ 1 x.1:=aJ.one Ej;split
 .have f:aJ (1+2+2) x.2.2:=(aJ.one (a:=x.2.2)<|by have:=h.2.2;omega).le S;exact ((b.mul<|Mh h).mul<|Mh h).add f
 .exact b.le S
def ail{x}(a:o0 x):aJ 6 (yD x):=by
 unfold yD;split
 .exact((YN a).mul<|Mh a).mul (Mh a)|>.le S
 .exact(YN a).le S
def auy x(l:o0 x):w O 38 [.a [.I .i8 x.1,.I .i8 x.2.1,.I .u8 x.2.2]] (aQ<|tk x):=by
 refine aK Tryz.func38 ?_;have v:(if x.2.2%8=7 then x.1*mP x.2.2*mP x.2.2+x.2.2 else x.1)=Ct x:=rfl;have A:(if x.2.2%8=6 then qD x.2.1*mP x.2.2*mP x.2.2 else qD x.2.1)=yD x:=rfl;have g:=Mh l;have m:=YN l;have i:=RH (Ct x) (yD x) (YM l) ((aik l).sm S)<|(ail l).sm S;rw[show kQ (Ct x) (yD x)=tk x from J]at i;generalize Ct x=n at*;generalize yD x=d at*;generalize tk x=o at*;obtain⟨N,D,k⟩:=x;let ⟨⟨r,E⟩,⟨d1,d2⟩,C,G⟩:=l;simp only at*;have t:w O 84 [c (4611686018427387904+k)] (aZ<|mP k):=km _ Y Y;have H:aJ 1 N:=aJ.one Y;have K:aJ 5 k:=(aJ.one (a:=k) Y).le S;refine U J<|R<|rc J J (km N Y Y) (rc J J (km D Y Y) (M J<|kp ⟨[(1,.c<|.P 0 0),(2,.c<|.P 1000 0),(3,.c<|.P 1008000 0),(4,.c<|.P 1009000 0)],[(0,.box 57 0 [.I .i8 N,.I .i8 D,.I .u8 k]),(1000,.box 44 0 [.B ah,.V<|.slice none 0 0,.B ah,.V<|.slice none 0 0]),(1008000,.box 42 0<|av .z N),(1009000,.box 42 0<|av .z<|qD D)],10,[]⟩ ?_<|λf=>U J<|F J (λb=>?_)<|λb=>di ?_) (hp:=aH)) (hp:=aH);rotate_left
 .have b:D=0:=dw b;have e:qD D=1:=by rw[b];rfl
  rw[e]at f;exact cG<|rc J J (km 1 S S)<|M J<|eD f aN
 .have b:D≠0:=by have b:(D==0)=ah:=b;exact xl b
  have e:qD D=D:=y b;rw[e]at f;exact eD f aN
 refine R<|rc J J t (M J<|kp ⟨[(1,.c<|.P 0 0),(2,.c<|.P 1000 0),(3,.c<|.P 1008000 0),(4,.c<|.P 1009000 0),(5,.c<|.P 10005000 0)],[(0,.box 57 0 [.I .i8 N,.I .i8 D,.I .u8 k]),(1000,.box 44 0 [.B ah,.V<|.slice none 0 0,.B ah,.V<|.slice none 0 0]),(1008000,.box 42 0<|av .z n),(1009000,.box 42 0<|av .z<|qD D),(10005000,.box 42 0<|av .z<|mP k)],20,[]⟩ ?_<|λf=>U J<|F J (λb=>?_)<|λb=>di ?_) (hp:=aH);rotate_left
 .have b:k%8=7:=by have b:(k.tmod 8==7)=true:=b;rw[k5 C]at b;exact dw b
  rw[q b]at v;subst v;exact cG<|rc J J (mr N (mP k) (H.sm S)<|g.sm S)<|rc J J (mr (N*mP k) (mP k) ((H.mul g).sm S)<|g.sm S)<|rc J J (km k Y Y) (rc J J (zN (N*mP k*mP k) k (((H.mul g).mul g).sm S)<|K.sm S)<|M J<|eD f aN) (hp:=aH)
 .have b:¬k%8=7:=by have b:(k.tmod 8==7)=ah:=b;rw[k5 C]at b;exact xl b
  rw[y b]at v;subst v;exact eD f aN
 refine kp ⟨[(2,.c<|.P 1000 0),(3,.c<|.P 1008000 0),(4,.c<|.P 1009000 0)],[(1000,.box 44 0 [.B ah,.V<|.slice none 0 0,.B ah,.V<|.slice none 0 0]),(1008000,.box 42 0<|av .z n),(1009000,.box 42 0<|av .z d)],30,[]⟩ ?_<|λf=>U J<|F J (λb=>?_)<|λb=>di ?_;rotate_left
 .have b:k%8=6:=by have b:(k.tmod 8==6)=true:=b;rw[k5 C]at b;exact dw b
  rw[q b]at A;subst A;exact cG<|rc J J (mr (qD D) (mP k) (m.sm S)<|g.sm S)<|rc J J (mr (qD D*mP k) (mP k) ((m.mul g).sm S)<|g.sm S)<|M J<|eD f aN
 .have b:¬k%8=6:=by have b:(k.tmod 8==6)=ah:=b;rw[k5 C]at b;exact xl b
  rw[y b]at A;subst A;exact eD f aN
 exact R<|rc J J i<|M J<|cN J
def iQ(x:V):L:=(x:L)
def yE(l:E V)(a:G):E L:=gI<|(r (a+1) l).map iQ
def yF(x:E (V×V×V))(a:G):E L:=gI<|(r (a+1) x).map tk
def Ay(x:V×V×V):V×V×V:=(x.1,x.2.1,0)
def yG(x:E (V×V×V))(a:G):E L:=yF (x.map Ay) a
def RY{a b:Type}(f:a->b) d l i(g:i<Z l):((r (i+1) l).map f)=((r i l).map f)++[f (I l i d)]:=by rw[vj,gf];simp[df g,aO]
def aim(l:E V)(a:G)(f:a<=1000)(k:∀x∈l,-128<=x/\x<=127):w O 61 [e I8 l,c a] (e .q<|yE l a):=by
 refine aK Tryz.func61<|xN 0 J λg=>?_;have g:Z l*1<=140737488355328:=g;refine U J<|R<|gV .q [] J J (M J<|bI<|U J<|ay<|bq (α:=G) (λi=>⟨[(0,e I8 l),(1,c a),(5,.c<|.X 1000000),(6,c i)],[(1000000,.vec 44 .q<|(r i l).map iQ)],3,[]⟩) (λi=>i<=Z l/\i<=a+1) (λi=>Z l-i) 0 ⟨bg _,bg _⟩ aN ?_);rintro i ⟨p,m⟩;refine bI<|R<|rg 12 J J (λh=>?_)<|λh=>?_
 .have h:i<Z l:=by have h:(i:V)<(Z l:V):=aV h;omega
  refine M J<|F J (λh2=>?_)<|λh2=>?_
  .have h2:i<=a:=by have h2:(i:V)<=a:=aV h2;omega
   have s:=k (I l i 0) YO;have n:w O 30 [c (I l (af (i:V)) 0)] (aQ<|iQ<|I l i 0):=by rw[cC];exact nH _ Y Y
   have t: -9223372036854775808<=I l (af (i:V)) I8.eP/\I l (af (i:V)) I8.eP<=9223372036854775807:=by rw[cC];show-9223372036854775808<=I l i 0/\I l i 0<=9223372036854775807;omega
   refine aE<|bI<|ay<|cG<|rc J J n (rl .q [iQ (I l i 0)] J J (ra J J J J J J J J J ?_ ?_<|M J<|bP<|rt J<|a4 (i+1) ⟨Y,Y⟩ Az<|Wk.trans (wk (st':=⟨[(0,e I8 l),(1,c a),(5,.c<|.X 4008000),(6,c ((i+1:G):V))],[(4008000,.vec 44 .q<|(r (i+1) l).map iQ)],6,[]⟩) ⟨sR J,sR J,sR J,sE J ?_,j⟩ ⟨bE J ?_,j⟩)<|Wk.trans (gZ 1000000 4008000 J J J) aN)) (hp:=?_)
   .show(_+1+(_+1)/4+192)*64<=_;simp only[dj,iC];omega
   .show(_+1)*4<=_;simp only[dj,iC];omega
   .rfl
   .rw[RY iQ 0 l i h]
   .simp only[Pr.an,Pr.h,num,ia,true_and,and_true];first|done|omega
  .have h2:¬i<=a:=by have h2:¬(i:V)<=a:=bc h2;omega
   have d:=EV ((r i l).map iQ) Iq;rw[show gI ((r i l).map iQ)=yE l a by rw[yE,(Y:i=a+1)]]at d;exact bs<|aS<|dv 1000000 J J J<|bQ J J d J<|cN J
 .have h:i=Z l:=by have h:¬(i:V)<(Z l:V):=bc h;omega
  have d:=EV ((r i l).map iQ) Iq;rw[show gI ((r i l).map iQ)=yE l a by rw[yE,jM Y,jM Y]]at d;exact M J<|F J (λh2=>pO)<|λ_=>(bs<|aS<|dv 1000000 J J J<|bQ J J d J<|cN J)
end Go.El
namespace Go.El
open Go Go.Proofs Fx
def RZ{p:G}(H:bL p)(A:Fx p):E V:=Ak<|jU H.pos A
def YP{p}(H:bL p) A:bS p (RZ H A):=(yq<|jU H.pos A).1
def auz{p}(H:bL p) A:fx (RZ H A)=A:=(yq<|jU H.pos A).2
def jn{p:G}(H:bL p)(f:E V)(A:Fx p):E V:=(aW (RZ H A) f p).2
section
variable{p:G}(H:bL p){f:E V}(hf:bS p f)(kT:f≠[])
include hf kT
def AA(A:Fx p):bS p (jn H f A)/\Z (jn H f A)<Z f/\fx f∣fx (jn H f A)-A:=by let ⟨d1,d2,d3,d4,d5,d6⟩:=nL H.hp H.le (YP H A).1 hf kT;have a:=cF.2 kT;refine⟨d5<|YP H A,by show(aW (RZ H A) f p).2.length<_;omega,?_⟩;have:=QZ H (YP H A) hf kT;rwa[auz]at this
def auA{A:Fx p}{a:E V}(b:bS p a)(l:Z a<Z f)(d:fx f∣fx a-A):a=jn H f A:=by let ⟨m1,m,g⟩:=AA H hf kT A;have i:fx f∣fx a-fx (jn H f A):=mJ d<|m9 g;exact xd b m1<|BZ<|ui H i (by have:=HY H.pos (fx a:Fx p)<|fx<|jn H f A;rw[dn b,dn m1]at this;rw[dn hf];omega)
end
def yH(p:G)(f a b:E V):E V:=(aW (db a b p) f p).2
def YQ{p}(H:bL p){f a b}(g:bS p f)(d:f≠[]):bS p (yH p f a b)/\Z (yH p f a b)<Z f/\(fx f:Fx p)∣fx (yH p f a b)-fx a*fx b:=by let ⟨d1,d2,d3,d4,d5,d6⟩:=nL H.hp H.le (oX H.pos a b).1 g d;have i:=cF.2 d;refine⟨d5<|oX H.pos a b,by show(aW (db a b p) f p).2.length<_;omega,?_⟩;have:=QZ H (oX H.pos a b) g d;rwa[yA]at this
def jo(p:G):E (E V)->Fx p
 |[]=>1
 |g::l=>fx g*jo p l
def Mi(p:G):∀l m:E (E V),jo p (l++m)=jo p l*jo p m
 |[],m=>(c8 _).symm
 |g::l,m=>by rw[mY,jo,jo,Mi p l m,dc]
def R0(p:G):∀{l:E (E V)}{g:E V},g∈l->(fx g:Fx p)∣jo p l
 |a::l,g,hg=>by
  rcases b7.1 hg with rfl|hg
  .exact mH _ _
  .exact dE (R0 p hg) _
end Go.El
namespace Go.El
open Go Go.Proofs
def auB(f:G->V){i a}(b:i<a):I ((bJ a).map f) i 0=f i:=by rw[aO,ju,k7 b];rfl
open Fx
open Classical in
def YR{p:G}(H:bL p):∀{l:E (E V)},(∀g∈l,Mon p g/\2<=Z g)->jo p l≠0/\Z l+1<=sz (jo p l)
 |[],_=>⟨s0 H,by rw[jo,s6 H];exact aL _⟩
 |g::l,a=>by
  let ⟨b,h2⟩:=YR H (l:=l) λg d=>a g (by simp[d])
  let ⟨m1,i⟩:=a g au;have f:=eS H (m1.lW H) b;rw[dn m1.c]at f;refine⟨oW H (m1.lW H) b,?_⟩;rw[jo,jg];omega
structure xm(p:G)(f:E V)(l:E (E V)):Prop where
 parts:∀g∈l,Mon p g/\2<=g.length/\bD (fx g:Fx p)
 prod:jo p l=fx f
structure rM(p:G)(a:E V):Prop where
 H:bL p
 am:aM a
 l2:2<=a.length
 l9:a.length<=9
 co:Co (fx a:Fx p) (bH<|fx a)
def R4:∀(l m:E (E V)),eE (l++m)=eE l+eE m
 |[],m=>by rw[vW,eE,fD]
 |f::l,m=>by rw[mY,eE,eE,R4 l m];omega
def ain{p:G}:∀l:E (E V),jo p l=g8 l
 |[]=>rfl
 |f::l=>by rw[jo,g8,ain l]
def aio{p:G}(H:bL p):∀{l:E (E V)},(∀g∈l,bD (fx g:Fx p))->te (g8 l:Fx p)->l.Pairwise (λx a=>Co (fx x:Fx p)<|fx a)
 |[],_,_=>Ir
 |x::l,i,k=>by
  have d:∀{l:E (E V)}{a:E V},a∈l->(fx a:Fx p)∣g8 l:=by
   intro l;induction l with
   |nil=>intro f b;cases b
   |cons a l m=>
    intro f b
    rcases b7.1 b with rfl|b
    .exact⟨g8 l,by rw[g8,dk]⟩
    .let ⟨w,hw⟩:=m b;exact⟨fx a*w,by rw[g8,hw,dc]⟩
  refine lq.2 ⟨λa n=>?_,aio H (λg s=>i g<|by simp[s]) (k.of_dvd ⟨fx x,J⟩)⟩;refine H2 H (λe=>by have:=(i x au).1;rw[e,kO H.pos]at this;omega) λQ hQ z A=>k Q hQ ?_
  let ⟨u,hu⟩:=z;let ⟨v,hv⟩:=fW A<|d n;refine⟨u*v,?_⟩;show fx x*g8 l=_;rw[hu,hv];ac_rfl
section
variable{p:G}{a:E V}
def rM.p1(b:rM p a):1<(p:V):=kw b.H.hp.1
def rM.trim(b:rM p a):aU (md p a)=md p a:=(b.am.md b.p1).trim
def rM.f(b:rM p a):Mon p (md p a)/\(md p a).length=Z a/\(fx (md p a):Fx p)=fx a:=by refine⟨⟨?_,(b.am.md b.p1).1,(b.am.md b.p1).2⟩,z5 _ _,agU a⟩;rw[<-b.trim];exact mE b.H.pos<|Em b.H.pos a
def rM.ne(b:rM p a):(fx a:Fx p)≠0:=λe=>by have:=xg b.H b.am;rw[e,kO b.H.pos]at this;have:=b.l2;omega
def rM.nb(b:rM p a):te (fx a:Fx p):=by let ⟨U,V,e⟩:=b.co;exact ag1 b.H b.ne (D:=1) (U:=U) (V:=V) (fO _).symm e.symm
def YS:∀{l:E (E V)},(∀f∈l,2<=Z f)->Z l<=eE l/\∀f∈l,Z f<=1+eE l
 |[],_=>⟨aL _,λf b=>by cases b⟩
 |x::l,d=>by
  let ⟨i1,i2⟩:=YS (l:=l) λf b=>d f (by simp[b])
  have:=d x au;refine⟨by rw[jg,eE];omega,λf b=>?_⟩;rw[eE];rcases b7.1 b with rfl|b
  .omega
  .have:=i2 f b;omega
end
def aip(a:E V):∀n,((nJ a n:G):V)=sm (λi=>(aC (I a i 0):V)) n
 |0=>rfl
 |n+1=>by rw[nJ,sm,<-aip a n,zQ]
def aiq{a}(m:aM a){g}(d:aM g)(t:Rx.zx g∣Rx.zx a) i:(I g i 0).natAbs<=iH a:=by
 let ⟨k,f⟩:=t;have b:Rx.Mo k:=by have:=Rx.pS m;rw[f]at this;exact this.Ae<|Rx.pS d
 let ⟨i1,_⟩:=Rx.Rj b (Rx.pS d)<|f▸Rx.EI a;let ⟨q,q1,u⟩:=Rx.Q9 i1;subst u;have s:aM q:=Rx.Q' q1 b;have C:=cF.2 s.1;have D:=cF.2 d.1;have H:=cF.2 m.1;have v:=Rx.eS b.ne (Rx.pS d).ne;rw[<-f,Rx.mM m.can,Rx.mM q1,Rx.mM d.can]at v;have p:=Rx.agG (A:=ps g) (B:=ps q) (k:=Z g-1) (l:=Z q-1) (λj x=>gk g Y) (λj x=>gk q Y) (by rw[cT,s.2];decide) i;rw[PS.dk,Rx.Ra f.symm,(Y:Z g-1+(Z q-1)=Z a-1)]at p;have z:Rx.pC (Z a-1) (ps a)=((nJ a (Z a):G):V):=by rw[aip,Rx.pC,(Y:Z a-1+1=Z a)];rfl
 rw[z]at p;have e:((iH a:G):V)=2^(Z a-1)*((nJ a (Z a):G):V):=by rw[iH,gM,wW,fL];rfl
 rw[<-e,cT]at p;omega
def lj(p:G)(f:E V):E V:=(bJ<|Z f-1).map λi=>((((i+1)%p:G):V)*I f (i+1) 0)%(p:V)
def Mj p f:Z (lj p f)=Z f-1:=by simp[lj]
def YT p f{i}(a:i<Z f-1):I (lj p f) i 0=((((i+1)%p:G):V)*I f (i+1) 0)%(p:V):=by unfold lj;rw[aO,ju,k7 a];rfl
def YU(p:G) f:(fx (lj p f):Fx p)=bH (fx f):=mk_eq.2 (Cg.of λi=>by
 show I (lj p f) i 0%(p:V)=((i:V)+1)*I f (i+1) 0%(p:V);by_cases h:i<Z f-1
 .rw[YT p f h,ou,K6,sV,ou,<-sV];rfl
 .rw[gk _ (by rw[Mj];omega),gk f Y,iO])
def Mk{p:G}(a:0<p) f:rp p (lj p f):=λi=>by
 by_cases h:i<Z f-1
 .rw[YT p f h];exact⟨jG _ Y,jH _ Y⟩
 .rw[gk _ (by rw[Mj];omega)];exact⟨iZ _,Y⟩
def Is(p:G)(a:E V):Bool:=decide<|List.length (il p (aU<|md p a)<|aU<|lj p<|aU<|md p a)=1
def air{p}(H:bL p) a:Is p a=true↔Co (fx a:Fx p) (bH<|fx a):=by
 have d:bS p (aU<|md p a):=mE H.pos<|Em H.pos a;have f:bS p (aU<|lj p<|aU<|md p a):=mE H.pos<|Mk EE _;have b:(fx (aU<|md p a):Fx p)=fx a:=by rw[H8,agU]
 have g:(fx (aU<|lj p<|aU<|md p a):Fx p)=bH (fx a):=by rw[H8,YU,b]
 unfold Is;rw[decide_eq_true_iff,ass H.hp H.le d f,<-as8,b,g]
def YV p b(l:2<=p):∃k,1<=k/\b<p^k/\∀d,1<=d->d<k->p^d<=b:=by
 have g:∀n,n<p^n:=λn=>gK Nat.lt_two_pow_self<|B6 l n
 have i:∀n,(∀d,1<=d->d<n+1->p^d<=b)\/∃k,1<=k/\b<p^k/\∀d,1<=d->d<k->p^d<=b:=by
  intro n;induction n with
  |zero=>exact .inl λd a b=>by omega
  |succ n f=>
   rcases f with f|f
   .by_cases h:p^(n+1)<=b
    .refine .inl λd g m=>?_
     by_cases e:d=n+1
     .rw[e];exact h
     .exact f d g Y
    .exact .inr ⟨n+1,Y,Y,f⟩
   .exact .inr f
 rcases i (b+1)with h|h
 .have:=h (b+1) Y Y;have:=g<|b+1;omega
 .exact h
open Classical in
def o8(p b:G):G:=if hp:2<=p then Ak (YV p b hp)else 1
def ais{p}(a:2<=p) b:1<=o8 p b/\b<p^o8 p b/\∀d,1<=d->d<o8 p b->p^d<=b:=by have e:o8 p b=Ak (YV p b a):=dif_pos a;rw[e];exact yq<|YV p b a
structure Ml(a:E V):Prop where
 am:aM a
 l2:2<=a.length
 l9:a.length<=9
 aB:∀i,aJ 6 (a.getD i 0)
 ex:∃p∈uk,Co (fx a:Fx p) (bH<|fx a)
def auC{p}(a:p∈uk):bL p:=⟨asV a,kw<|(agH a).2⟩
open Classical in
def auD{A}(b:Rx.sz A=2):Rx.bD A:=by
 refine⟨Y,λX i e=>?_⟩;have d:A≠0:=λe=>by rw[e,Rx.kO]at b;omega
 have f:X≠0:=λa=>d (by rw[e,a,Rx.dy])
 have g:i≠0:=λa=>d (by rw[e,a,Rx.g6])
 have k:=Rx.eS f g;rw[<-e,b]at k;have:=Rx.fQ f;have:=Rx.fQ g;omega
def Ml.bB{a}(b:Ml a):aJ 8 ((2*iH a:G):V):=by have f:=agc a b.aB (i:=Z a) (kw b.l9);have d:2^(Z a-1)<=2^8:=dD S (kw b.l9);unfold aJ at*;rw[rC]at*;have g:iH a<=nJ a (Z a)*2^8:=gD _ d;omega
def Ml.mBp{a}(f:Ml a){p:G}(q1:2<=p)(m:p<4294967296):aJ 9 ((p:V)^o8 p (2*iH a))/\o8 p (2*iH a)<=257:=by
 have d:=f.bB;let ⟨n,s,g⟩:=ais (p:=p) q1<|2*iH a;generalize o8 p (2*iH a)=k at*;generalize 2*iH a=b at*;unfold aJ at d;rw[rC]at d;by_cases e:k=1
 .subst e;refine⟨?_,Y⟩;unfold aJ;rw[gP,ry,mu,rC];have:(4294967296:G)^1<=4294967296^9:=dD S S;omega
 .obtain⟨j,rfl⟩:∃j,k=j+1:=⟨k-1,Y⟩;have t:=g j Y Y;have u:p^j<4294967296^8:=Y;constructor
  .unfold aJ;rw[<-wW,rC,fG];have v:p^j*p<=p^j*4294967296:=gD _ Y;omega
  .have i:2^j<=p^j:=B6 Y j;have l:(2:G)^j<2^256:=by refine wV i ?_;have:(4294967296:G)^8=2^256:=S;omega
   have:=(Nat.pow_lt_pow_iff_right (a:=2) S).1 l;omega
abbrev MT:ET:= .pr (.sl ar) oR
def jI(p:G):E (E V×V)->Fx p
 |[]=>1
 |x::l=>pk (fx x.1) (af x.2)*jI p l
def ait(p:G)(x:E V×V):∀l,jI p (l++[x])=jI p l*pk (fx x.1) (af x.2)
 |[]=>by show pk (fx x.1) (af x.2)*1=1*pk (fx x.1) (af x.2);rw[fO,c8]
 |a::l=>by rw[mY,jI,jI,ait p x l,dc]
def pull(p:G)(g:E V):G->E V->G->E V×G
 |0,f,n=>(f,n)
 |k+1,f,n=>if(aW f g p).2=[]then pull p g k (aW f g p).1 (n+1)else(f,n)
def aiu{p:G}(H:bL p){g:E V}(a:Mon p g)(l:2<=Z g):∀(k:G)(f:E V)(n:G),Z f<k->Mon p f->Mon p (pull p g k f n).1/\(fx f:Fx p)*pk (fx g) n=fx (pull p g k f n).1*pk (fx g) (pull p g k f n).2/\¬(fx g:Fx p)∣fx (pull p g k f n).1/\n<=(pull p g k f n).2/\((fx g:Fx p)∣fx f->n+1<=(pull p g k f n).2/\(pull p g k f n).1.length<Z f)/\(pull p g k f n).1.length<=Z f
 |0,_,_,d,_=>by omega
 |k+1,f,n,d,b=>by
  rw[pull];split
  .rename_i m;have i:=(QY H b.c a.c a.ne).1 m;have s:Z g<=Z f:=by have:=k9 H i<|b.lW H;rwa[dn a.c,dn b.c]at this
   let ⟨_,_,_,_,_,v⟩:=nL H.hp H.le b.c.1 a.c a.ne;have x:(aW f g p).1.length<Z f:=Y;let ⟨i1,i2,i3,i4,i5,i6⟩:=aiu H a l k (aW f g p).1 (n+1) Y<|XQ H b a s;refine⟨i1,?_,i3,Y,λ_=>⟨Y,Y⟩,Y⟩;rw[<-i2,Am H b.c a.c a.ne i,pk];ac_rfl
  .rename_i m;have i:¬(fx g:Fx p)∣fx f:=λd=>m ((QY H b.c a.c a.ne).2 d)
   exact⟨b,J,i,aL _,λd=>aF d i,aL _⟩
structure xn(p:G)(a:Fx p)(f:E V)(m:G)(l:E (E V×V)):Prop where
 aM:Mon p f
 prod:a=pk (fx f) m*jI p l
 gJ:∀x∈l,Mon p x.1/\2<=x.1.length/\bD (fx x.1:Fx p)/\1<=x.2
 nd:∀x∈l,¬(fx x.1:Fx p)∣fx f
 ds:l.Pairwise λx b=>x.1≠b.1
 m1:1<=m
def YW{p:G}(H:bL p){Q:Fx p}(a:2<=sz Q):∀m,m+1<=sz (pk Q m)
 |0=>by rw[pk,s6 H];exact aL _
 |m+1=>by
  have b:Q≠0:=λe=>by rw[e,kO H.pos]at a;omega
  have d:=eS H (EG H b m) b;have f:=YW H a m;rw[pk];omega
def aiv{p:G}(H:bL p):∀{l:E (E V×V)},(∀x∈l,Mon p x.1/\2<=Z x.1/\1<=x.2)->jI p l≠0/\Z l+1<=sz (jI p l)/\∀x∈l,x.2+1<=sz (jI p l)
 |[],_=>⟨s0 H,by rw[jI,s6 H];exact aL _,λx hx=>by cases hx⟩
 |a::l,d=>by
  let ⟨b,h2,g⟩:=aiv H (l:=l) λx hx=>d x mW
  let ⟨m1,i,k⟩:=d a au;have f:(fx a.1:Fx p)≠0:=m1.lW H;have m:=YW H (show 2<=sz (fx a.1:Fx p)by rw[dn m1.c];exact i)<|af a.2;have n:=eS H (EG H f<|af a.2) b;have s:=fQ H.pos b;refine⟨oW H (EG H f _) b,?_,λx hx=>?_⟩
  .rw[jI,jg];omega
  .rw[jI];rcases b7.1 hx with rfl|hx
   .omega
   .have:=g x hx;omega
def xn.bounds{p}(H:bL p){d}{f}{m}{l}(a:xn p d f m l):Z l+1<=sz d/\(∀x∈l,x.2+1<=sz d)/\(2<=Z f->m+1<=sz d):=by
 let ⟨g,h2,i⟩:=aiv H (l:=l) λx b=>⟨(a.gJ x b).1,(a.gJ x b).2.1,(a.gJ x b).2.2.2⟩
 have k:=eS H (EG H (a.aM.lW H) m) g;have s:=fQ H.pos<|EG H (a.aM.lW H) m;rw[<-a.prod]at k;refine⟨Y,λx b=>by have:=i x b;omega,λn=>?_⟩;have t:=YW H (show 2<=sz (fx f:Fx p)by rw[dn a.aM.c];exact n) m;omega
def xn.start{p:G}{f:E V}(b:Mon p f):xn p (fx f) f 1 [] where
 aM:=b
 prod:=by rw[sZ,jI,fO]
 gJ:=λx a=>by cases a
 nd:=λx a=>by cases a
 ds:=Ir
 m1:=aL _
def kU(p n:G):G:=(n+p-1)/p
def aiw{p}(H:bL p){f}(g:Mon p f)(N:2<=Z f)(u:bH (fx f:Fx p)=0):Mon p (ox p f<|kU p<|Z f)/\(fx f:Fx p)=pk (fx<|ox p f<|kU p<|Z f) p/\2<=Z (ox p f<|kU p<|Z f)/\Z (ox p f<|kU p<|Z f)<Z f:=by
 have k:=H.hp.1;have a:Z (ox p f<|kU p<|Z f)=kU p (Z f):=by simp[ox]
 have l:Z f<=kU p (Z f)*p:=by unfold kU;have:=tJ (Z f+p-1) p;have:=gU (Z f+p-1) (Y:0<p);rw[gA];omega
 have v:(Z f-1)%p=0:=fe λP=>by
  have x:=(mk_eq.1 (u:mk (tf<|ps f) (Al<|bC.ps p f)=mk 0 (bC.zero p))).at<|Z f-2;rw[PS.mB,iP]at x;have A:((Z f-2:G):V)+1=((Z f-1:G):V):=Y;have B:tf (ps f) (Z f-2)=((Z f-1:G):V)*1:=by show(((Z f-2:G):V)+1)*I f (Z f-2+1) 0=_;rw[A,(Y:Z f-2+1=Z f-1),g.one]
  rw[B,oV]at x;omega
 obtain⟨t,C⟩:∃t,Z f-1=t*p:=⟨(Z f-1)/p,by have:=tJ (Z f-1) p;rw[gA];omega⟩;have n:kU p (Z f)=t+1:=by unfold kU;rw[(Y:Z f+p-1=t*p+p),(Jl:t*p+p=(t+1)*p)];exact WT _ Y
 have D:1<=t:=by
  rcases sS t with e|e
  .subst e;omega
  .exact e
 have K:t*2<=t*p:=gD t k;have b:∀i,I (ox p f<|kU p<|Z f) i 0=if i<kU p (Z f)then I f (i*p) 0 else 0:=λi=>by
  by_cases s:i<kU p (Z f)
  .rw[q s];exact auB _ s
  .rw[y s,gk _ Y]
 have d:I (ox p f<|kU p<|Z f) (Z (ox p f<|kU p<|Z f)-1) 0=1:=by rw[a,b,q Y,n,eL,<-C,g.one]
 refine⟨⟨⟨λi=>?_,.inr (by rw[d];decide)⟩,λe=>by rw[e]at a;simp at a;omega,d⟩,Fx.dm H u l,Y,Y⟩;rw[b];split
 .exact g.c.1 _
 .exact⟨iZ _,H.pos⟩
structure E0(p:G)(f:E V)(a:E (E V)):Prop where
 ok:∀g∈a,Mon p g/\2<=g.length/\bD (fx g:Fx p)/\(fx g:Fx p)∣fx f
 ds:a.Pairwise λx b=>x≠b
def auF{p}(H:bL p){a b}(d:Mon p a)(f:Mon p b)(l:bD (fx b:Fx p))(m:2<=Z a)(n:(fx a:Fx p)∣fx b):a=b:=by
 let ⟨w,hw⟩:=n;have g:sz (fx a:Fx p)≠1:=by rw[dn d.c];omega
 rcases l.2 _ _ hw with e|e
 .obtain⟨c,i,rfl⟩:=HZ H e;have s:=eS H (uh H i)<|d.lW H;rw[<-hw,dn f.c,dn d.c,yv H i]at s;have t:Z b=Z a:=Y;have k:(ps b) (Z a-1)%(p:V)=(PS.K c*ps a) (Z a-1)%(p:V):=(mk_eq.1<|show(mk (ps b) (bC.ps p b):Fx p)=mk (PS.K c*ps a) ((bC.K p c).mul<|bC.ps p a)from hw).at _;rw[PS.eN,cT,cT,d.one,<-t,f.one,oV]at k;have u:(K c:Fx p)=1:=by rw[<-lU];exact EC k.symm
  rw[u,c8]at hw;exact(xd f.c d.c hw).symm
 .exact aF e g
def R5{p:G}(H:bL p){Q A:Fx p}(hQ:bD Q):∀n,Q∣pk A n->Q∣A
 |0,a=>aF a<|hQ.Ev H
 |n+1,a=>by
  rcases hQ.pP H (show Q∣pk A n*A from a)with b|b
  .exact R5 H hQ n b
  .exact b
def xn.pull{p}(H:bL p){u}{f}{m}{l}(b:xn p u f m l){g}{v}(d:E0 p f (g::v)):
  xn p u (pull p g (Z f+1) f 0).1 m (l++[(g,(((pull p g (Z f+1) f 0).2:G):V)*(m:V))])/\E0 p (pull p g (Z f+1) f 0).1 v/\(pull p g (Z f+1) f 0).1.length<Z f:=by
 let ⟨i,g2,z,A⟩:=d.ok g au
 let ⟨q1,q2,B,T,C,W⟩:=aiu H i g2 (Z f+1) f 0 (dV _) b.aM
 let ⟨X,D⟩:=C A
 generalize Go.El.pull p g (Z f+1) f 0=x at*
 let ⟨c,n⟩:=x
 simp only at q1 q2 B T C W X D⊢
 rw[pk,fO]at q2
 let ⟨d1,d2⟩:=lq.1 d.ds
 have s:(fx c:Fx p)∣fx f:=R6
 refine⟨⟨q1,?_,?_,?_,?_,b.m1⟩,⟨λk K=>?_,d2⟩,D⟩
 .rw[b.prod,q2,ait,w8];have e:af ((n:V)*(m:V))=n*m:=by rw[<-gM,cC]
  simp[e,w7];ac_rfl
 .intro x a;rcases bl.1 a with a|a
  .exact b.gJ x a
  .have e:=iW.1 a;subst e;refine⟨i,g2,z,?_⟩;have:=BP (Y:0<n) (show 0<m from b.m1);show(1:V)<=(n:V)*(m:V);rw[<-gM];omega
 .intro x a;rcases bl.1 a with a|a
  .exact λj=>b.nd x a<|fW j s
  .have e:=iW.1 a;subst e;exact B
 .refine Aq.2 ⟨b.ds,XJ _ _,λx a y o e=>?_⟩;have q:=iW.1 o;subst q;exact b.nd x a (by rw[e];exact A)
 .let ⟨N,P,t,Q⟩:=d.ok k (by simp[K]);refine⟨N,P,t,?_⟩;rw[q2]at Q;rcases t.pP H Q with e|e
  .exact e
  .exact aF (auF H N i z P<|R5 H t n e).symm<|d1 k K
def iM(p:G)(m:G):E (E V)->E V×E (E V×V)->E V×E (E V×V)
 |[],x=>x
 |g::a,x=>iM p m a ((pull p g (Z x.1+1) x.1 0).1,x.2++[(g,(((pull p g (Z x.1+1) x.1 0).2:G):V)*(m:V))])
def YX{p:G}(H:bL p){d:Fx p}{m:G}:∀(a:E (E V))(f:E V)(l:E (E V×V)),xn p d f m l->E0 p f a->xn p d (iM p m a (f,l)).1 m (iM p m a (f,l)).2/\(iM p m a (f,l)).1.length<=Z f/\(a≠[]->(iM p m a (f,l)).1.length<Z f)
 |[],_,_,b,_=>⟨b,aL _,λi=>aF J i⟩
 |g::a,f,l,b,hr=>by let ⟨i1,i2,i3⟩:=b.pull H hr;let ⟨j1,j2,_⟩:=YX H a _ _ i1 i2;rw[iM];exact⟨j1,by simp only at j2⊢;omega,λ_=>by simp only at j2⊢;omega⟩
def auG{p}(H:bL p){f}(a:aU (lj p f)=[]):bH (fx f:Fx p)=0:=by rw[<-YU,<-H8,a,lV]
structure E3(p:G)(a:Fx p)(l:E (E V×V)):Prop where
 parts:∀x∈l,Mon p x.1/\2<=x.1.length/\bD (fx x.1:Fx p)/\1<=x.2
 ds:l.Pairwise λx b=>x.1≠b.1
 prod:jI p l=a
end Go.El
namespace Go.El
open Go Go.Proofs
def rN(a b:V):V:=if a<b then-1 else if a>b then 1 else 0
def E4(a b:E V):G->V
 |0=>0
 |i+1=>if rN (I a i 0) (I b i 0)≠0 then rN (I a i 0) (I b i 0)else E4 a b i
def uA(a b:E V):V:=if Z a≠Z b then rN (Z a) (Z b)else E4 a b (Z a)
section
variable{α:Type}{d:α}{cm:α->α->V}
def gAd(d:α)(cm:α->α->V)(xs:E (α))(k:G):Prop:=∀t,t<k->0<=cm (I xs (t+1) d) (I xs t d)
end
open Fx
abbrev d0M:E V×V:=([],0)
def auH a b:rN a b= -rN b a:=by unfold rN;split<;>split<;>(try split)<;>omega
end Go.El
namespace Go.El
open Go Go.Proofs
namespace Rx
def R7(t:L)(m:G):∀n:G,t^(m+n)=t^m*t^n
 |0=>by rw[jZ,AB,lF]
 |n+1=>by rw[<-tC,AD,R7 t m n,AD,lT]
def YY(s t:L):∀n:G,(s*t)^n=s^n*t^n
 |0=>by rw[AB,AB,AB,lF]
 |n+1=>by rw[AD,AD,AD,YY s t n];grind
def YZ:∀n:G,(1:L)^n=1
 |0=>AB _
 |n+1=>by rw[AD,YZ n,lF]
def It{t:L}(b:t≠0):∀n:G,t^n≠0
 |0=>by rw[AB];decide
 |n+1=>λa=>by
  rw[AD]at a;rcases Ab.1 a with a|a
  .exact It b n a
  .exact b a
def im(t:L)(A:Rx):Rx:=⟨λi=>t^i*A i,by let ⟨n,a⟩:=A.2;exact⟨n,λi b=>by show t^i*A.v i=0;rw[a i b,eh]⟩⟩
def qE t A i:im t A i=t^i*A i:=rfl
def R8 t A B:im t (A*B)=im t A*im t B:=ext λn=>by
 rw[qE,fM,fM,<-QB];refine w6 λi a=>?_
 rw[qE,qE];have:t^n=t^i*t^(n-i):=by rw[<-R7,(Y:i+(n-i)=n)]
 rw[this];grind
def auI t A B:im t (A+B)=im t A+im t B:=ext λn=>by rw[qE,ef,ef,qE,qE,Rat.mul_add]
def auJ t a:im t (K a)=K a:=ext λn=>by
 rw[qE,lS];split
 next h=>rw[h,AB,rG]
 .rw[eh]
def aiz t:im t 1=1:=auJ t 1
def aiA s t A:im s (im t A)=im (s*t) A:=ext λn=>by rw[qE,qE,qE,YY,lT]
def aiB A:im 1 A=A:=ext λn=>by rw[qE,YZ,rG]
def auK t A:bH (im t A)=K t*im t (bH A):=ext λn=>by rw[s7,qE,du,qE,s7,AD];grind
def R9{t}(b:t≠0) A:sz (im t A)=sz A:=by
 have a:∀(s:L)(B:Rx),sz (im s B)<=sz B:=λs B=>na λi d=>by rw[qE,lE d,eh]
 have g:=a t A;have f:=a t⁻¹ (im t A);rw[aiA,k8 t b,aiB]at f;omega
def bD.im{t}(a:t≠0){A}(b:bD A):bD (im t A):=by
 refine⟨by rw[R9 a];exact b.1,λX Y e=>?_⟩;have d:A=Rx.im t⁻¹ X*Rx.im t⁻¹ Y:=by rw[<-R8,<-e,aiA,k8 t a,aiB]
 have:=b.2 _ _ d;rwa[R9 (uv a),R9<|uv a]at this
def Co.im{t}{A B}(a:Co A B):Co (im t A) (Rx.im t B):=by let ⟨U,V,e⟩:=a;refine⟨Rx.im t U,Rx.im t V,?_⟩;rw[<-R8,<-R8,<-auI,e,aiz]
def mS(t:L)(A:Rx):Rx:=K (t^(sz A-1))*im t⁻¹ A
def aiC{t}(a:t≠0) A:sz (mS t A)=sz A:=by
 by_cases h:A=0
 .subst h;have e:im t⁻¹ 0=(0:Rx):=ext λi=>by rw[qE,mB,eh]
  rw[mS,e,g6]
 .have b:=R9 (uv a) A;have d:im t⁻¹ A≠0:=λe=>by rw[e,kO]at b;have:=fQ h;omega
  have f:=eS (uh<|It a<|sz A-1) d;rw[yv (It a _),b]at f;show sz (K _*_)=_;omega
def Mm{t:L}(a:t≠0)(n:G):t^n*t⁻¹ ^n=1:=by rw[<-YY,Rat.mul_inv_cancel t a,YZ]
def Mn{t}A i:mS t A i=t^(sz A-1)*(t⁻¹ ^i*A i):=by rw[mS,du,qE]
def auL{t}(a:t≠0){A}(b:Mo A):Mo (mS t A):=by rw[Mo,aiC a,Mn,<-lT,Mm a,rG];exact b
def auM t:mS t 1=1:=by rw[mS,s6,aiz,fO];show K (t^0)=1;rw[AB,lU]
def auN{t}{A B}(a:A≠0)(hB:B≠0):mS t (A*B)=mS t A*mS t B:=by have h:=eS a hB;have b:=fQ a;have d:=fQ hB;rw[mS,mS,mS,R8,(Y:sz (A*B)-1=(sz A-1)+(sz B-1)),R7,eN];ac_rfl
def auO{t}(a:t≠0) A:mS t⁻¹ (mS t A)=A:=ext λi=>by rw[Mn,Mn,aiC a,Rat.inv_inv];have b:=Mm a<|sz A-1;have d:=Mm a i;grind
def auP{t}(a:t≠0){A}(b:bD A):bD (mS t A):=bD.smul (b.im<|uv a)<|It a _
def auQ{t}(a:t≠0){A}(b:Co A (bH A)):Co (mS t A) (bH<|mS t A):=by let ⟨U,V,e⟩:=b.im (t:=t⁻¹);refine⟨K (t^(sz A-1))⁻¹ *U,K (t^(sz A-1))⁻¹ *(K (t⁻¹)⁻¹ *V),?_⟩;rw[mS,Ly,auK,<-e];have k:K (t^(sz A-1))⁻¹ *U*(K (t^(sz A-1))*im t⁻¹ A)=(K (t^(sz A-1))⁻¹ *K (t^(sz A-1)))*(U*im t⁻¹ A):=fC;have l:K (t^(sz A-1))⁻¹ *(K (t⁻¹)⁻¹ *V)*(K (t^(sz A-1))*(K t⁻¹ *im t⁻¹ (bH A)))=(K (t^(sz A-1))⁻¹ *K (t^(sz A-1)))*((K (t⁻¹)⁻¹ *K t⁻¹)*(V*im t⁻¹ (bH A))):=fC;rw[k,l,qy<|It a<|sz A-1,qy<|uv a,c8,c8,c8]
end Rx
open Rx
def jw(a:E L):G->G
 |0=>1
 |i+1=>jw a i*((I a i 0).den/Nat.gcd (jw a i) (I a i 0).den)
def eX(a:E L):G:=jw a<|Z a
def eY(a:E L):E V:=(bJ<|Z a).map λk=>(I a k 0).num*((eX a:G):V)^(Z a-1-k)/((I a k 0).den:V)
def lY(a:G)(g:E V):E L:=(bJ<|Z g).map λk=>kQ (I g k 0)<|(a:V)^(Z g-1-k)
def pW:E (E L)->Rx
 |[]=>1
 |u::l=>lx u*pW l
def Y0 a i:jw a (i+1)=Nat.lcm (jw a i) (I a i 0).den:=by rw[jw,Nat.lcm,Nat.mul_div_assoc _<|Xe _ _]
def Iu(a:E L):∀i,∀b,b<i->(I a b 0).den∣jw a i
 |0,_,d=>by omega
 |i+1,b,d=>by
  rw[Y0];by_cases f:b=i
  .subst f;exact Nat.dvd_lcm_right _ _
  .exact H7 (Iu a i b Y)<|Nat.dvd_lcm_left _ _
def Y1(a:E L){D:G}(b:∀d,(I a d 0).den∣D):∀i,jw a i∣D
 |0=>Nat.one_dvd _
 |i+1=>by rw[Y0];exact Nat.lcm_dvd (Y1 a b i)<|b i
def Iv(a:E L):∀i,0<jw a i
 |0=>Nat.zero_lt_one
 |i+1=>by rw[Y0];exact Nat.lcm_pos (Iv a i) (I a i 0).den_pos
def Cu a:Z (eY a)=Z a:=by simp[eY]
def Sa a{k}(b:k<Z a):I (eY a) k 0=(I a k 0).num*((eX a:G):V)^(Z a-1-k)/((I a k 0).den:V):=by unfold eY;rw[aO,ju,k7 b];rfl
def Sb a{D}(b:(a.den:V)∣D):((a.num*D/(a.den:V):V):L)=(D:L)*a:=by
 obtain⟨e,rfl⟩:=b;have d:(a.den:V)≠0:=kw a.den_pos
 have f:a.num*((a.den:V)*e)/(a.den:V)=a.num*e:=by rw[(fC:a.num*((a.den:V)*e)=(a.num*e)*(a.den:V)),Int.mul_ediv_cancel _ d]
 rw[f,g7,g7,<-QP a];have:(((a.den:G):V):L)=((a.den:G):L):=rfl;rw[this];grind
structure kA(a:E L):Prop where
 one:a.getD (a.length-1) 0=1
 l2:2<=a.length
 l9:a.length<=9
 co:Co (lx a) (bH<|lx a)
 aB:∀i,aJ 6 ((eY a).getD i 0)
section
variable{a:E L}
def Mp a:((eX a:G):L)≠0:=Ag<|XG.1<|Iv a _
def kA.can(b:kA a):bp a:= .inr (by rw[b.one];decide)
def kA.sz(b:kA a):Rx.sz (lx a)=Z a:=fj b.can
def Y2(b:G):∀n:G,(((b:V)^n:V):L)=((b:G):L)^n
 |0=>by rw[ry,AB];rfl
 |n+1=>by rw[gP,g7,Y2 b n,AD];rfl
def aiD{t:L}(b:t≠0){m k:G}(d:k<=m):t^m*t⁻¹ ^k=t^(m-k):=by
 have e:t^m=t^(m-k)*t^k:=by rw[<-R7,(Y:m-k+k=m)]
 rw[e,lT,Mm b,lF]
def kA.zx(b:kA a):Rx.zx (eY a)=mS ((eX a:G):L) (lx a):=Rx.ext λi=>by
 rw[mL,Mn,b.sz,dN];by_cases d:i<Z a
 .rw[Sa a d,Sb,Y2,<-lT,aiD (Mp a) Y];by_cases e:i=Z a-1
  .rw[e,b.one];exact Int.one_dvd _
  .have f:(I a i 0).den∣eX a:=Iu a _ i d;have g:((I a i 0).den:V)∣((eX a:G):V):=z4.2 f;obtain⟨j,k⟩:∃j,Z a-1-i=j+1:=⟨Z a-1-i-1,Y⟩;rw[k,gP];exact LL g<|EK _ _
 .rw[gk _ (by rw[Cu];omega),fP a Y,eh,eh];rfl
def kA.aM(b:kA a):aM (eY a):=by have d:=b.l2;refine⟨λe=>by have:=Cu a;rw[e]at this;simp at this;omega,?_⟩;rw[Cu,Sa a Y,b.one,kg,ry];rfl
def kA.aiE(b:kA a){l}(g:l.Nodup)(k:∀p∈l,bL p)(m:Aj<tb l):∃p∈l,Fx.Co (Fx.fx (eY a):Fx (p:G)) (Fx.bH<|Fx.fx<|eY a):=by
 have t:=b.l2;have u:=b.l9;obtain⟨n,d⟩:∃n,Z a=n+2:=⟨Z a-2,Y⟩;have f:Co (Rx.zx<|eY a) (bH<|Rx.zx<|eY a):=by rw[b.zx];exact auQ (Mp a) b.co
 refine ato g k m (n:=n) (by rw[Cu];exact d) b.aM f (B:=2^192) S (λi=>?_) ?_
 .have:=b.aB i;unfold aJ at this;omega
 .have s:2*((2*n+2)*((n+1)*2^192))<=2^200:=by have v:(2*n+2)*(n+1)<=16*8:=mA Y Y;rw[<-mz (2*n+2)];omega
  refine br (B6 s _)<|br (dD S (Y:2*n+1<=15)) ?_;decide+kernel
def kA.mf(b:kA a):Ml (eY a):=⟨b.aM,by rw[Cu];exact b.l2,by rw[Cu];exact b.l9,b.aB,b.aiE as1 (λ_ d=>auC d) as3⟩
def Sd b g:Z (lY b g)=Z g:=by simp[lY]
def Y3 b g{k}(d:k<Z g):I (lY b g) k 0=kQ (I g k 0) ((b:V)^(Z g-1-k)):=by unfold lY;rw[aO,ju,k7 d];rfl
def auR z{b:G}(g:0<b) n:kQ z ((b:V)^n)=((b:G):L)⁻¹ ^n*(z:L):=by
 have d:((b:G):L)≠0:=Ag Y;rw[QQ,Y2,s'];have i:=Mm d n;have f:(((b:G):L)^n)⁻¹ =((b:G):L)⁻¹ ^n:=by have k:=k8 _<|It d n;grind
 rw[f,yn]
def aiF{b:G}(d:0<b){g:E V}(f:Go.El.aM g):lx (lY b g)=mS ((b:G):L)⁻¹ (Rx.zx g):=Rx.ext λi=>by
 have k:((b:G):L)≠0:=Ag Y;rw[Mn,mM<|aM.can f,mL,dN];by_cases l:i<Z g
 .rw[Y3 b g l,auR _ d,<-lT,aiD (uv k) Y]
 .rw[fP _ (by rw[Sd];omega),gk g Y];show(0:L)=_*(_*((0:V):L));rw[show((0:V):L)=0 from J,eh,eh]
def aiG{b}{g}(d:Go.El.aM g):I (lY b g) (Z (lY b g)-1) 0=1:=by have:=cF.2 d.1;rw[Sd,Y3 b g Y,d.2,kg,ry];rfl
def aiH{f:G}(k:0<f):∀{b:E (E V)},(∀g∈b,Go.El.aM g)->pW (b.map<|lY f)=mS ((f:G):L)⁻¹ (rK b)
 |[],_=>(auM _).symm
 |g::b,d=>by
  have l:rK b≠0:=by
   have i:∀{b:E (E V)},(∀g∈b,Go.El.aM g)->rK b≠0:=by
    intro b;induction b with
    |nil=>intro _;exact s0
    |cons g b m=>intro d;exact oW (pS<|d g au).ne<|m λx hx=>d x mW
   exact i λx hx=>d x mW
  rw[gX,pW,rK,auN (pS<|d g au).ne l,aiF k<|d g au,aiH k λx hx=>d x mW]
def kA.unG(m:kA a){b}(i:∀k∈b,Go.El.aM k/\Rx.bD (Rx.zx k))(n:Rx.rK b=Rx.zx (eY a)):(∀u∈b.map (lY<|eX a),I u (Z u-1) 0=1/\bp u/\Mo (lx u)/\bD (lx u))/\pW (b.map<|lY<|eX a)=lx a:=by
 have l:0<eX a:=Iv a _;refine⟨λu p=>?_,?_⟩
 .obtain⟨g,f,rfl⟩:=kd.1 p;let ⟨d,g2⟩:=i g f;rw[aiF l d];exact⟨aiG d,.inr (by rw[aiG d];decide),auL (uv<|Mp a)<|pS d,auP (uv<|Mp a) g2⟩
 .rw[aiH l λg f=>(i g f).1,n,m.zx,auO (Mp a)]
end
end Go.El
namespace Go.El
open Go Go.Proofs Fx
def aiI{x a}:eR x a<=0↔x<=a:=by
 unfold eR;split
 .omega
 .split<;>omega
end Go.El
namespace Go.El
open Go Go.Proofs
def Y4(a:E L)(b:∀i,QS 20 (I a i 0)):∀i,aJ (20*i+1) ((jw a i:G):V)
 |0=>aJ.one (a:=1) S
 |i+1=>by have f:=Y4 a b i;have l:jw a (i+1)<=jw a i*(I a i 0).den:=gD _<|Nat.div_le_self _ _;have k:=f.mul<|(b i).d;rw[<-gM]at k;unfold aJ at*;rw[rC]at*;rw[(Y:20*(i+1)+1=20*i+1+20)];omega
def rO{a:Type}(f:G->a)(d:a)(n b:G):E a:=(bJ n).map λk=>if n<=k+b then f k else d
def auT{a:Type}(f:G->a) d n b:Z (rO f d n b)=n:=by simp[rO]
def auU{a:Type}(f:G->a) d n:List.replicate n d=rO f d n 0:=by
 refine v7 (by simp[rO]) λi g b=>?_
 simp[rO]at b⊢;omega
def aiJ{g:Type}(f:G->g) d{n a}(l:a<n):(rO f d n a).set (n-1-a) (f<|n-1-a)=rO f d n (a+1):=by
 refine v7 (by simp[rO]) λi m k=>?_
 rw[List.getElem_set];simp[rO,Di,NP];simp[rO,sY]at k;by_cases e:n-1-a=i
 .subst e;rw[q J,q Y]
 .rw[y e];by_cases b:n<=i+a
  .rw[q b,q Y]
  .rw[y b,y Y]
def auV{a:Type}(f:G->a) d n:rO f d n n=(bJ n).map f:=by
 refine v7 (by simp[rO]) λi b g=>?_
 simp[rO]
def aiK{g:E V}:∀{l:E (E V)},g∈l->Rx.zx g∣Rx.rK l
 |f::l,a=>by
  rw[Rx.rK];rcases b7.1 a with rfl|a
  .exact Rx.mH _ _
  .exact Rx.dE (aiK a) _
def aiL:∀{l:E (E V)},(∀g∈l,Rx.bD (Rx.zx g))->Rx.rK l≠0/\Z l+1<=Rx.sz (Rx.rK l)
 |[],_=>⟨Rx.s0,by rw[Rx.rK,Rx.s6];exact aL _⟩
 |g::l,b=>by
  let ⟨i1,i2⟩:=aiL (l:=l) λx hx=>b x mW
  have a:=b g au;have:=Rx.eS a.ne i1;have:=a.1;rw[Rx.rK];exact⟨Rx.oW a.ne i1,RJ⟩
def tm(a b:E L):G->V
 |0=>0
 |i+1=>if pT (I a i 0) (I b i 0)≠0 then pT (I a i 0) (I b i 0)else tm a b i
def kC(a b:E L):V:=if Z a≠Z b then rN (Z a) (Z b)else tm a b (Z a)
abbrev AE:E L×V:=([],0)
def Iw(x a:E L×V):V:=kC x.1 a.1
structure Ix(w:G)(x:E L×V):Prop where
 l:x.1.length<=1000
 q:∀i,QS w (x.1.getD i 0)
open Rx
def CD(a b:G)(A:Rx):Prop:=0<a/\∀i,∃z:V,aC z<=b/\((a:G):L)*A i=(z:L)
def CD.int{a b}{A}(d:CD a b A):dz (K ((a:G):L)*A):=dz.of λi=>by let ⟨z,_,h2⟩:=d.2 i;exact⟨z,by rw[du,h2]⟩
def CD.le{a b N}{A}(d:CD a b A)(k:b<=N):CD a N A:=⟨d.1,λi=>by let ⟨z,f,h2⟩:=d.2 i;exact⟨z,br f k,h2⟩⟩
def CD.low{b d f}{A}(g:CD b f A)(m:d∣b)(n:dz (K ((d:G):L)*A)):CD d f A:=by
 obtain⟨j,rfl⟩:=m;have t:=g.1;have p:0<d:=rq λe=>by subst e;omega
 have j0:0<j:=rq λe=>by subst e;omega
 refine⟨p,λi=>?_⟩;let ⟨z,k,h2⟩:=g.2 i;have a:=n.at i;rw[du]at a;refine⟨_,?_,a⟩;generalize nu (K ((d:G):L)*A) i=y at*;have l:((j:V):L)*(y:L)=(z:L):=by rw[<-h2,<-a,B4,uj];grind
 rw[<-g7]at l;have s:(j:V)*y=z:=Ai.1 l;rw[<-s,tZ]at k;have:1*aC y<=j*aC y:=dS _ j0;have e:aC ((j:V))=j:=rfl;rw[e]at k;omega
def auW{A}{a}(d:∀i,aC (A i)<=a):∀n,Rx.pC n A<=(((n+1)*a:G):V):=by
 intro n;have b:∀k,sm (λi=>(aC (A i):V)) k<=((k*a:G):V):=by
  intro k;induction k with
  |zero=>simp[sm]
  |succ k f=>
   rw[sm]
   have:=d k
   rw[gY,je]
   omega
 exact b<|n+1
def CD.div{t b}{A D}(hA:Mo A)(u:Mo D)(hd:D∣A)(T:CD t b A):∃d,Dn D d/\d∣t/\CD d (2^(sz A-1)*(sz A*b)) D:=by
 obtain⟨E,rfl⟩:=hd;have hE:Mo E:=hA.Ae u;let ⟨d,a⟩:=LK D;let ⟨e,f⟩:=LK E;let ⟨n,v⟩:=LK<|E*D;have W:=agD hE u f a v;have g:=v.dvd t T.int;have x:d∣t:=H7 ⟨e,by rw[W,gA]⟩ g;have O:=eS hE.ne u.ne;have R:=fQ hE.ne;have s2:=fQ u.ne;refine⟨d,a,x,a.pos,λi=>⟨nu (K ((d:G):L)*D) i,?_,by rw[<-du];exact a.int.at i⟩⟩;have X:∀{m:G}{B:Rx},0<m->sz (K ((m:G):L)*B)<=sz B:=λ_=>na λi q=>by rw[du,lE q,eh]
 have r:nu (K ((e:G):L)*E) (sz E-1)≠0:=λw=>by have p:=f.int.at<|sz E-1;rw[du,w]at p;have H:E (sz E-1)=1:=hE;rw[H,lF]at p;exact Ag (XG.1 f.pos) p
 have N:=agG (A:=nu<|K ((d:G):L)*D) (B:=nu<|K ((e:G):L)*E) (k:=sz D-1) (l:=sz E-1) (λj y=>yz<|by have:=X (B:=D) a.pos;omega) (λj y=>yz<|by have:=X (B:=E) f.pos;omega) r i;have F:nu (K ((d:G):L)*D)*nu (K ((e:G):L)*E)=nu (K ((n:G):L)*(E*D)):=by rw[<-EA a.int f.int];congr 1;rw[W,B4,eN];ac_rfl
 rw[F]at N;have I:∀i,aC (nu (K ((n:G):L)*(E*D)) i)<=b:=λi=>by let ⟨z,p,H⟩:=(T.low g v.int).2 i;have o:=v.int.at i;rw[du,H]at o;rw[<-Ai.1 o];exact p
 have s:=auW I<|sz D-1+(sz E-1);rw[(Y:sz D-1+(sz E-1)=sz (E*D)-1)]at N s;have P:(0:V)<=2^(sz (E*D)-1):=Int.le_of_lt<|pI S;have Q:=vw N<|mq s P;rw[(Y:sz (E*D)-1+1=sz (E*D))]at Q;have J:(2:V)^(sz (E*D)-1)*((sz (E*D)*b:G):V)=((2^(sz (E*D)-1)*(sz (E*D)*b):G):V):=by rw[gM (2^(sz (E*D)-1)),wW];rfl
 rw[J]at Q;exact QR.1 Q
def CD.ht{a b N}{A}(h:CD a b A)(d:a<=N)(f:b<=N):Ht N A:=⟨(a:V),Ej,d,λi=>by let ⟨z,g,h2⟩:=h.2 i;exact⟨z,br g f,h2⟩⟩
def aiM{a}{d b}(f:CD d b (lx a)):eX a∣d:=Y1 a (λj=>by
 let ⟨z,_,h2⟩:=f.2 j;rw[dN]at h2;have g:=QP<|I a j 0;generalize I a j 0=r at*;have i:((d:V)*r.num:V)=z*(r.den:V):=by refine Ai.1 ?_;rw[g7,g7,<-g,<-h2,uj,uj];grind
 have k:(r.den:V)∣r.num*(d:V):=⟨z,by rw[fL,i,fL]⟩;have l:r.den∣aC r.num*d:=by have:=Lg.2 k;rwa[tZ]at this
 exact(r.reduced.symm.dvd_of_dvd_mul_left l)) _
def auX a:dz (K ((eX a:G):L)*lx a):=dz.of λi=>by
 by_cases d:i<Z a
 .refine⟨(I a i 0).num*((eX a:G):V)/((I a i 0).den:V),?_⟩;have b:(I a i 0).den∣eX a:=Iu a _ i d;rw[Sb _ (z4.2 b),du,dN];rfl
 .exact⟨0,by rw[du,dN,fP a Y,eh];rfl⟩
def auY{a}{d m b t}(g:CD d m (lx a))(f:I a (Z a-1) 0=1)(p:d<=2^b)(s:m<=2^t)(N:(Z a-2)*b+t<=191) i:aJ 6 (I (eY a) i 0):=by
 have u:(4294967296:G)^6=2^192:=S;unfold aJ;rw[u];by_cases k:i<Z a
 .by_cases v:i=Z a-1
  .subst v;rw[Sa a k,f,kg,ry];exact Nat.one_lt_two_pow S
  .let ⟨z,A,h2⟩:=(g.low (aiM g)<|auX a).2 i;rw[dN]at h2;have B:eX a<=2^b:=br (wZ g.1<|aiM g) p;obtain⟨j,C⟩:∃j,Z a-1-i=j+1:=⟨Z a-1-i-1,Y⟩;have D:(I a i 0).num*((eX a:G):V)^(j+1)/((I a i 0).den:V)=((eX a:G):V)^j*z:=by
    refine Ai.1 ?_;have l:((I a i 0).den:V)∣((eX a:G):V)^(j+1):=by rw[gP];exact LL (z4.2<|Iu a _ i k)<|EK _ _
    rw[Sb _ l,g7,<-h2,gP,g7,uj];grind
   rw[Sa a k,C,D,tZ,Int.natAbs_pow,rC];have H:eX a^j<=2^(b*j):=by rw[Ek];exact B6 B j
   have K:b*j<=(Z a-2)*b:=by rw[gA];exact dS _ Y
   have n:eX a^j*aC z<=2^(b*j)*2^t:=mA H<|br A s;rw[<-jm]at n;exact wV n<|XP S Y
 .rw[gk _ (by rw[Cu];omega)];exact gG S
def iS:E (E L×V)->Rx
 |[]=>1
 |x::l=>pk (lx x.1) (af x.2)*iS l
def rP:E (Rx×V)->Rx
 |[]=>1
 |x::l=>pk x.1 (af x.2)*rP l
def aiN:∀l m,iS (l++m)=iS l*iS m
 |[],m=>by rw[vW,iS,c8]
 |x::l,m=>by rw[mY,iS,iS,aiN l m,dc]
def aiO:∀l m,rP (l++m)=rP l*rP m
 |[],m=>by rw[vW,rP,c8]
 |x::l,m=>by rw[mY,rP,rP,aiO l m,dc]
def aiP:∀l:E (E L×V),iS l=rP (l.map λp=>(lx p.1,p.2))
 |[]=>rfl
 |x::l=>by rw[gX,iS,rP,aiP l]
def auZ{l m}(a:l.Perm m):iS l=iS m:=by
 induction a with
 |nil=>rfl
 |cons x _ b=>rw[iS,iS,b]
 |swap x y l=>rw[iS,iS,iS,iS];ac_rfl
 |trans _ _ i1 i2=>exact i1.trans i2
structure aiQ(a:E L)(fs:E (E L×V)):Prop where
 ok:∀x∈fs,x.1.getD (x.1.length-1) 0=1/\bD (lx x.1)/\1<=x.2
 prod:iS fs=lx (dA a)
 xa:fs.Pairwise (λx b=>x.1≠b.1)
 adj:gAd AE Iw fs (fs.length-1)
def aiR(d:G->G)(a:G):∀b,pk (pF d b) a=pF (λm=>d m*a) b
 |[]=>Es a
 |x::b=>by rw[pF,pF,w8,aiR d a b,w7]
def Y5{a}(b:FL a)(d:G->G):Mo (pF d a):=yx b.mo
def aiS{a:E (Rx×G)}(b:FL a):∀(k n:G),rP (pV a k n)=pF (λm=>if n<=m/\m<n+k then m else 0) a
 |0,n=>by rw[pV,rP];exact(QI λx _=>y Y).symm
 |k+1,n=>by
  have g:rP (if 1<sz (pF (kP n) a)then[(pF (kP n) a,(n:V))]else[])=pk (pF (kP n) a) n:=by
   split
   .rw[rP,rP,fO,cC]
   next i=>have d:=Y5 b<|kP n;have:=fQ d.ne;rw[d.unit Y,Es,rP]
  rw[pV,aiO,g,aiS b k<|n+1,aiR,<-Ew];refine Af λx _=>?_
  unfold kP;by_cases e:x.2=n
  .rw[q e,y Y,q Y];omega
  .rw[y e];by_cases f:n+1<=x.2/\x.2<n+1+k
   .rw[q f,q Y];omega
   .rw[y f,y Y];omega
def Y6{b:E (Rx×G)}:∀{k n:G}{d:Rx×V},d∈pV b k n->∃m:G,n<=m/\d=(pF (kP m) b,(m:V))/\1<sz (pF (kP m) b)
 |0,_,_,a=>by cases a
 |k+1,n,d,a=>by
  rw[pV]at a;rcases bl.1 a with a|a
  .split at a
   next f=>exact⟨n,aL _,iW.1 a,f⟩
   .cases a
  .let ⟨m,f,h2,g⟩:=Y6 a;exact⟨m,Y,h2,g⟩
def aiT{L:E (Rx×G)}:∀(k n:G),(pV L k n).Pairwise (λx b=>x.2≠b.2)
 |0,_=>Ir
 |k+1,n=>by
  rw[pV];refine Aq.2 ⟨?_,aiT k<|n+1,λx a b d=>?_⟩
  .split
   .exact XJ _ _
   .exact Ir
  .let ⟨m,f,h2,_⟩:=Y6 d;split at a
   .rw[iW.1 a,h2];show(n:V)≠(m:V);omega
   .cases a
def au0{a}(b:FL a) m:Co (pF (kP m) a) (bH<|pF (kP m) a):=by
 refine H2 (Y5 b _).ne λQ hQ d f=>?_
 let ⟨x,hx,i,h2⟩:=B2 hQ d;have g:kP m x.2=1:=kw<|LD m x.2
 exact b.H5 (LD m) hx g<|fW (hQ.assoc (b.gJ x hx) h2) f
def au1{A}(a:Co A (bH A)){Q}(hQ:2<=sz Q):¬Q*Q∣A:=λ⟨w,e⟩=>by
 have b:Q∣A:=⟨w*Q,by rw[e];ac_rfl⟩;have d:Q∣bH A:=by rw[e,yw,yw];refine iA ⟨bH w*Q,fC⟩ ?_;rw[fN];exact iA ⟨w*bH Q,fC⟩ ⟨w*bH Q,fC⟩
 let ⟨U,V,f⟩:=a;have g:Q∣1:=by rw[<-f];exact iA (dE b _)<|dE d _
 have:=dvd_one g;omega
def Se{u:E L}:∀{l:E (E L)},u∈l->lx u∣pW l
 |v::l,a=>by
  rw[pW];rcases b7.1 a with rfl|a
  .exact mH _ _
  .exact dE (Se a) _
def aiU:∀{l:E (E L)},(∀u∈l,bD (lx u))->(∀Q:Rx,2<=sz Q->¬Q*Q∣pW l)->l.Pairwise (·≠·)
 |[],_,_=>Ir
 |v::l,b,d=>by refine lq.2 ⟨λu a f=>?_,aiU (λu a=>b u<|by simp[a]) λQ hQ g=>d Q hQ<|dE g _⟩;subst f;exact d (lx v) (b v au).1<|Ad (nO _)<|Se a
def aiV(m:V):∀l:E (E L),iS (l.map λu=>(u,m))=pk (pW l) (af m)
 |[]=>(Es _).symm
 |u::l=>by rw[gX,iS,pW,w8,aiV m l]
def hY(ir:E L->E (E L))(a:E (E L×V)):E (E L×V):=a.flatMap λp=>(ir p.1).map λu=>(u,p.2)
def aiW{ir:E L->E (E L)}:∀{a:E (E L×V)},(∀p∈a,pW (ir p.1)=lx p.1)->iS (hY ir a)=iS a
 |[],_=>rfl
 |p::a,b=>by rw[hY,l6,aiN,aiV,b p au,iS];exact bm _ (aiW λd f=>b d<|by simp[f])
def aiX:∀{l:E (E L×V)},(∀x∈l,bD (lx x.1)/\1<=x.2)->iS l≠0/\Z l+1<=sz (iS l)
 |[],_=>⟨s0,by rw[iS,s6];exact aL _⟩
 |x::l,a=>by
  let ⟨i1,i2⟩:=aiX (l:=l) λy hy=>a y wD
  let ⟨d,h2⟩:=a x au;have f:=YG d.1<|af x.2;have b:pk (lx x.1) (af x.2)≠0:=λe=>by rw[e,kO]at f;omega
  have:=eS b i1;rw[iS];exact⟨oW b i1,RJ⟩
def aiY{x:E L×V}:∀{l:E (E L×V)},x∈l->1<=x.2->lx x.1∣iS l
 |f::l,a,b=>by
  rw[iS];rcases b7.1 a with rfl|a
  .obtain⟨n,d⟩:∃n,af x.2=n+1:=⟨af x.2-1,Y⟩;rw[d];exact mI (jc _ _) _
  .exact dE (aiY a b) _
def Y7 a b:pT a b= -pT b a:=by
 unfold pT;by_cases d:a<b
 .rw[q d,y<|Rat.not_lt.2<|Rat.le_of_lt d,q d]
 .rw[y d];by_cases h2:b<a
  .rw[q h2,q h2];rfl
  .rw[y h2,y h2,y d];rfl
def aiZ(a b:E L):∀i,tm a b i= -tm b a i
 |0=>rfl
 |i+1=>by
  rw[tm,tm,Y7 (I b i 0)<|I a i 0,aiZ a b i];generalize pT (I a i 0) (I b i 0)=z;by_cases f:z=0
  .rw[y (λd=>d f),y<|λd=>d Y]
  .rw[q f,q Y];omega
def au2 a b:kC a b= -kC b a:=by
 unfold kC;by_cases h:Z a=Z b
 .rw[y (λe=>e h),y<|λe=>e h.symm,aiZ,h]
 .rw[q h,q<|λe=>h e.symm,auH]
def ai0 x a:Iw x a= -Iw a x:=au2 _ _
structure pX(a:E L):Prop where
 can:bp a
 ne:a≠[]
 l9:a.length<=9
 hA:Ht (2^1500) (lx a)
 sz:∃c e h:G,CD c (2^h) (lx<|dA a)/\c<=2^e/\e<=600/\(a.length-2)*e+(h+12)<=191
section
variable{a:E L}
def pX.mo(b:pX a):Mo (lx<|dA a):=ahW b.can b.ne
def pX.Mq(b:pX a):Rx.sz (lx<|dA a)=Z a:=by rw[fj (qC a),EU b.can]
def pX.div(f:pX a){D}(i:Mo D)(l:D∣lx (dA a)):∃d b t,CD d (2^t) D/\d<=2^b/\b<=600/\(Z a-2)*b+t<=191:=by let ⟨c,b,k,g,h2,m,n⟩:=f.sz;let ⟨d,_,d2,d3⟩:=g.div f.mo i l;refine⟨d,b,k+12,d3.le ?_,br (wZ g.1 d2) h2,m,n⟩;rw[f.Mq];have p:=f.l9;have s:2^(Z a-1)<=2^8:=dD S Y;have u:Z a*2^k<=9*2^k:=dS _ p;have v:=mA s u;rw[jm];omega
def pX.ht(b:pX a){D}(f:Mo D)(g:D∣lx (dA a)):Ht (2^600) D:=by let ⟨d,e,t,i,h2,k,l⟩:=b.div f g;exact i.ht (br h2<|RO 600 k)<|RO 600 Y
def pX.qs(b:pX a){D}(d:Mo D)(f:D∣lx (dA a)) i:QS 20 (D i):=(b.ht d f).qs (mO (t:=600) Y) i
def ai1{b}(d:bp b)(f:Mo (lx b)):I b (Z b-1) 0=1:=by have:=f;rw[Mo,fj d]at this;exact this
def au3{b}(d:I b (Z b-1) 0=1):bp b/\Mo (lx b):=by have f:bp b:= .inr (by rw[d];decide);exact⟨f,by rw[Mo,fj f];exact d⟩
def pX.irH(f:pX a){b}(k:bp b)(g:Mo (lx b))(l:lx b∣lx (dA a))(m:2<=Z b)(n:Co (lx b) (bH<|lx b)):kA b/\∀i,QS 20 (I b i 0):=by
 have u:Z b<=Z a:=by have:=k9 l f.mo.ne;rwa[fj k,f.Mq]at this
 have v:=f.l9;let ⟨d,e,t,p,s,x,z⟩:=f.div g l;have A:(Z b-2)*e<=(Z a-2)*e:=dS _ Y;exact⟨⟨ai1 k g,m,Y,n,λi=>auY p (ai1 k g) s (aL _) Y i⟩,λi=>f.qs g l i⟩
def au5{b}{m}(d:1<=m):pF (kP m) b∣pF id b:=by
 have e:pF id b=pF (λk=>(k-kP m k)+kP m k) b:=Af λx _=>by show x.2=_;unfold kP;split<;>omega
 rw[e,Ew];exact jc _ _
def pX.au6(B:pX a){ir:E L->E (E L)}(hI:∀z,kA z->(∀i,QS 20 (I z i 0))->(∀u∈ir z,I u (Z u-1) 0=1/\bp u/\Mo (lx u)/\bD (lx u))/\pW (ir z)=lx z){D}(A:FL D)(hF:pF id D=lx (dA a)){b}(H:b.map (λp=>(lx p.1,p.2))=pV D (Z a) 1)(hq:∀p∈b,bp p.1):
  (∀p∈b,kA p.1/\(∀i,QS 20 (I p.1 i 0))/\1<=p.2)/\Z (hY ir b)<=8/\(∀x∈hY ir b,Ix 20 x)/\(∀x∈hY ir b,I x.1 (Z x.1-1) 0=1/\bD (lx x.1)/\1<=x.2)/\iS (hY ir b)=lx (dA a)/\(hY ir b).Pairwise (λx k=>x.1≠k.1):=by
 have C:∀p∈b,∃m:G,1<=m/\lx p.1=pF (kP m) D/\p.2=(m:V)/\2<=Z p.1:=λp l=>by
  have T:(lx p.1,p.2)∈pV D (Z a) 1:=by rw[<-H];exact Sf (f:=λp:E L×V=>(lx p.1,p.2)) l
  let ⟨m,m1,K,X⟩:=Y6 T;let ⟨e1,e2⟩:=Prod.mk.inj K;refine⟨m,m1,e1,e2,?_⟩;rw[<-e1,fj<|hq p l]at X;exact X
 have d:∀p∈b,kA p.1/\(∀i,QS 20 (I p.1 i 0))/\1<=p.2:=λp l=>by
  let ⟨m,m1,K,X,m4⟩:=C p l;have hm:Mo (lx p.1):=by rw[K];exact Y5 A _
  let ⟨i1,i2⟩:=B.irH (hq p l) hm (by rw[K,<-hF];exact au5 m1) m4 (by rw[K];exact au0 A m);exact⟨i1,i2,Y⟩
 have S:∀x∈hY ir b,∃p∈b,x.1∈ir p.1/\x.2=p.2:=λx s=>by let ⟨p,l,s⟩:=js.1 s;obtain⟨u,W,rfl⟩:=kd.1 s;exact⟨p,l,W,J⟩
 have N:∀x∈hY ir b,I x.1 (Z x.1-1) 0=1/\bD (lx x.1)/\1<=x.2:=λx s=>by let ⟨p,l,T,M⟩:=S x s;let ⟨i1,_,i2,i3⟩:=(hI p.1 (d p l).1 (d p l).2.1).1 _ T;exact⟨i1,i3,by rw[M];exact(d p l).2.2⟩
 have t:iS (hY ir b)=lx (dA a):=by
  rw[aiW λp l=>(hI p.1 (d p l).1 (d p l).2.1).2,aiP,H,aiS A,<-hF];refine Af λx s=>?_
  have T:=A.pos x s;have M:=YH A s;rw[hF,B.Mq]at M;exact q Y
 have c:Z (hY ir b)<=8:=by have:=(aiX λx s=>(N x s).2).2;rw[t,B.Mq]at this;have:=B.l9;omega
 have j:(hY ir b).Pairwise (λx k=>x.1≠k.1):=by
  have U:b.Pairwise (λx k=>x.2≠k.2):=by have:=aiT (L:=D) (Z a) 1;rw[<-H]at this;exact(H9 (R:=λx k:Rx×V=>x.2≠k.2)).1 this
  have go:∀{o:E (E L×V)},(∀p∈o,p∈b)->o.Pairwise (λx k=>x.2≠k.2)->(hY ir o).Pairwise (λx k=>x.1≠k.1):=by
   intro o;induction o with
   |nil=>intro _ _;exact Ir
   |cons p o ih=>
    intro H l
    let ⟨p1,p2⟩:=lq.1 l
    have g:=H p au
    refine Aq.2 ⟨?_,ih (λz hq=>H z<|by simp[hq]) p2,λx s k hy e=>?_⟩
    .let ⟨i1,i2⟩:=hI p.1 (d p g).1 (d p g).2.1;refine H9.2<|aiU (λu W=>(i1 u W).2.2.2) λQ hQ r=>?_;rw[i2]at r;exact au1 (d p g).1.co hQ r
    .obtain⟨u,W,rfl⟩:=kd.1 s;let ⟨z,w,hy'⟩:=js.1 hy;obtain⟨v,hv,rfl⟩:=kd.1 hy';have e:u=v:=e;subst e;have P:=H z (by simp[w]);let ⟨m,m1,K,X,_⟩:=C p g;let ⟨n,n1,n2,n3,_⟩:=C z P;let ⟨i1,i2⟩:=hI p.1 (d p g).1 (d p g).2.1;let ⟨j1,j2⟩:=hI z.1 (d z P).1 (d z P).2.1;let ⟨_,_,um,O⟩:=i1 u W;have d1:lx u∣pF (kP m) D:=by rw[<-K,<-i2];exact Se W
     have d2:lx u∣pF (kP n) D:=by rw[<-n2,<-j2];exact Se hv
     let ⟨x,x1,x2,x3⟩:=B2 O d1;let ⟨k,y1,y2,y3⟩:=B2 O d2;have kx:x.2=m:=XB.1 (kw<|LD m x.2);have ky:k.2=n:=XB.1 (kw<|LD n k.2);by_cases F:x=k
     .refine p1 z w ?_;rw[X,n3,<-kx,<-ky,F]
     .exact FL.XA A.xa x1 y1 F (by rw[<-(O.eq (A.gJ x x1) um (A.mo x x1) x3),<-(O.eq (A.gJ k y1) um (A.mo k y1) y3)])
  exact go (λp l=>l) U
 refine⟨d,c,λx s=>?_,N,t,j⟩
 .let ⟨T,M,h3⟩:=N x s;let ⟨h4,h5⟩:=au3 T;have r:lx x.1∣lx (dA a):=by rw[<-t];exact aiY s h3
  have hl:=k9 r B.mo.ne;rw[fj h4,B.Mq]at hl;have:=B.l9;exact⟨Y,λi=>B.qs h5 r i⟩
end
end Go.El
namespace Go.El
open Go Go.Proofs
def ai2{L:E (Rx×G)}:∀k n,Z (pV L k n)<=k
 |0,_=>aL _
 |k+1,n=>by
  have:=ai2 (L:=L) k<|n+1;rw[pV,iV];split
  .rw[qn];omega
  .rw[qT];omega
open Rx
def Y8{a}(l:Mo a)(g:dz a)(m:2<=sz a)(i:∀u v:Rx,Mo u->Mo v->dz u->dz v->a=u*v->2<=sz u->sz u<=sz v->False):bD a:=by
 refine⟨m,λA B e=>fe λk=>?_⟩;let ⟨u,v,b,d,f,n,p⟩:=X' l e (λe=>k<|.inl e)<|λe=>k<|.inr e;rw[f]at g;let ⟨i1,i2⟩:=Rj b d g;rcases Nat.le_total (sz u) (sz v)with hl|hl
 .exact i u v b d i1 i2 f n hl
 .exact i v u d b i2 i1 (f.trans<|Rx.dk u v) p hl
def E5 l i:lx (l.map iQ) i=((I l i 0:V):L):=by rw[dN,aO,ju,aO];cases l[i]? <;>rfl
def Y9(l:E V):dz (lx<|l.map iQ):=dz.of λi=>⟨_,E5 l i⟩
def au8 l i:nu (lx<|l.map iQ) i=I l i 0:=by show(lx (l.map iQ) i).num=_;rw[E5];rfl
def ai3{l}{n}(a:Z l=n+1)(b:I l n 0=1):bp (l.map iQ):=by refine .inr ?_;rw[dj,a,eL];have:=E5 l n;rw[dN]at this;rw[this,b];decide
def Cv{l}{n}(a:Z l=n+1)(b:I l n 0=1):sz (lx<|l.map iQ)=n+1:=by rw[fj (ai3 a b),dj,a]
def Y'{l}{n}(b:Z l=n+1)(a:I l n 0=1):Mo (lx<|l.map iQ):=by show lx (l.map iQ) (sz (lx<|l.map iQ)-1)=1;rw[Cv b a,eL,E5,a];rfl
def Cw{a b m}(d:m=a*b)(f:m≠0):aC a<=aC m:=by
 rw[d,tZ];have:b≠0:=λe=>f (by rw[d,e,iO])
 exact qv _ Y
def Cx{A}(a:Mo A){n}(b:sz A=n+1):nu A n=1:=by show(A n).num=1;rw[a.at b];rfl
section
variable{l:E V}{u v:Rx}
def AF(b:dz u)(d:dz v)(f:lx (l.map iQ)=u*v) i:I l i 0=sm (λa=>nu u a*nu v (i-a)) (i+1):=by rw[<-au8,f,EA b d,PS.fM]
end
def Za{l}{d f}(s:l=[d,f,1])(t:∀a b:V,d=a*b->f=a+b->False):bD (lx<|l.map iQ):=by subst s;refine Y8 (Y' (n:=2) J J) (Y9 _) (by rw[Cv (n:=2) J J];decide) ?_;intro u v g i k m e H s2;have x:=eS g.ne i.ne;rw[<-e,Cv (n:=2) J J]at x;have z:sz u=1+1:=Y;have A:sz v=1+1:=Y;have p:=AF k m e 0;have D:=AF k m e 1;simp[sm,Cx g z,Cx i A]at p D;exact t (nu u 0) (nu v 0) p Y
def ai4{l}{g i k}(A:l=[g,i,k,1])(B:∀a b m:V,g=a*m->i=a*b+m->k=a+b->False):bD (lx<|l.map iQ):=by subst A;refine Y8 (Y' (n:=3) J J) (Y9 _) (by rw[Cv (n:=3) J J];decide) ?_;intro u v p s d f e Q s2;have C:=eS p.ne s.ne;rw[<-e,Cv (n:=3) J J]at C;have D:sz u=1+1:=Y;have H:sz v=2+1:=Y;have P:nu u 2=0:=yz Y;have t:=AF d f e 0;have x:=AF d f e 1;have z:=AF d f e 2;simp[sm,Cx p D,Cx s H,P]at t x z;exact B (nu u 0) (nu v 1) (nu v 0) t x z
def ai5{l}{m p s t}(Q:l=[m,p,s,t,1])(T:∀a b f d:V,m=a*d->p=a*f+d->s=a*b+f->t=a+b->False)(W:∀a b f d:V,m=b*d->p=b*f+a*d->s=b+a*f+d->t=a+f->False):bD (lx<|l.map iQ):=by
 subst Q;refine Y8 (Y' (n:=4) J J) (Y9 _) (by rw[Cv (n:=4) J J];decide) ?_;intro u v x z g i e q s2;have X:=eS x.ne z.ne;rw[<-e,Cv (n:=4) J J]at X;have k:=AF g i e 0;have A:=AF g i e 1;have B:=AF g i e 2;have C:=AF g i e 3;by_cases D:sz u=1+1
 .have H:sz v=3+1:=by omega
  have N:nu u 2=0:=yz Y;have P:nu u 3=0:=yz Y;simp[sm,Cx x D,Cx z H,N,P]at k A B C;exact T (nu u 0) (nu v 2) (nu v 1) (nu v 0) k A B C
 .have D:sz u=2+1:=by omega
  have H:sz v=2+1:=Y;have P:nu u 3=0:=yz Y;have K:nu v 3=0:=yz Y;simp[sm,Cx x D,Cx z H,P,K]at k A B C;exact W (nu u 1) (nu u 0) (nu v 1) (nu v 0) k Y Y Y
def ai6{a k}(b:a*a=k)(f:k<36):∃n:G,n<=5/\(n:V)*n=k:=by
 refine⟨aC a,fe λg=>?_,by rw[au9 a];exact b⟩
 have d:6<=aC a:=Y;have:=mA d d;have i:((aC a*aC a:G):V)=k:=by rw[gM,au9 a];exact b
 omega
def au':bD (lx<|([-2,0,1]:E V).map iQ):=Za J λa b d f=>by have g:=Cw d S;have:a= -2\/a= -1\/a=0\/a=1\/a=2:=Y;rcases this with rfl|rfl|rfl|rfl|rfl<;>omega
def ava:bD (lx<|([1,0,1]:E V).map iQ):=Za J λa b d f=>by have g:=Cw d S;have:a= -1\/a=0\/a=1:=Y;rcases this with rfl|rfl|rfl<;>omega
def avb:bD (lx<|([-2,0,0,1]:E V).map iQ):=ai4 J λa b c d f g=>by have i:=Cw d S;have:a= -2\/a= -1\/a=0\/a=1\/a=2:=Y;rcases this with rfl|rfl|rfl|rfl|rfl<;>omega
def avc:bD (lx<|([1,1,1]:E V).map iQ):=Za J λa b d f=>by have g:=Cw d S;have:a= -1\/a=0\/a=1:=Y;rcases this with rfl|rfl|rfl<;>omega
def avd:bD (lx<|([-1,-1,0,1]:E V).map iQ):=ai4 J λa b c d f g=>by have i:=Cw d S;have:a= -1\/a=0\/a=1:=Y;rcases this with rfl|rfl|rfl<;>omega
def ai7{a b f d m}(g:1=b*d)(i:m=b+a*f+d)(s:0=a+f)(t:m=0\/m= -10):False:=by
 have u:=Cw g S;have e:f= -a:=Y;subst e;rw[Int.mul_neg]at i;have:b= -1\/b=0\/b=1:=Y;rcases this with rfl|rfl|rfl
 .have:d= -1:=by omega
  subst this;obtain⟨n,l,p⟩:=ai6 (a:=a) (k:= -2-m) Y Y;have:n=0\/n=1\/n=2\/n=3\/n=4\/n=5:=Y;rcases this with rfl|rfl|rfl|rfl|rfl|rfl<;>omega
 .omega
 .have:d=1:=by omega
  subst this;obtain⟨n,l,p⟩:=ai6 (a:=a) (k:=2-m) Y Y;have:n=0\/n=1\/n=2\/n=3\/n=4\/n=5:=Y;rcases this with rfl|rfl|rfl|rfl|rfl|rfl<;>omega
def ave:bD (lx<|([1,0,0,0,1]:E V).map iQ):=ai5 J (λa b c d f k g i=>by have l:=Cw f S;have:a= -1\/a=0\/a=1:=Y;rcases this with rfl|rfl|rfl<;>omega) λa b c d f k g i=>ai7 f g i<|.inl J
def avf:bD (lx<|([1,0,-10,0,1]:E V).map iQ):=ai5 J (λa b c d f k g i=>by have l:=Cw f S;have:a= -1\/a=0\/a=1:=Y;rcases this with rfl|rfl|rfl<;>omega) λa b c d f k g i=>ai7 f g i<|.inr J
def avg:bD (lx<|([-3,1]:E V).map iQ):=auD<|Cv (n:=1) J J
def avh{b:Type}{l}{i}(d:b)(a:i<Z l):I l i d∈l:=by rw[aO,df a];exact sx a
def ai8(l:E (V×V×V))(a:G)(g:a<=1000)(n:∀x∈l,o0 x):w O 13 [e RW l,c a] (e .q<|yF l a):=by
 refine aK Tryz.func13<|xN 0 J λk=>?_;have k:Z l*3<=140737488355328:=k;refine U J<|R<|gV .q [] J J (M J<|h<|U J<|ay<|bq (α:=G) (λi=>⟨[(0,e RW l),(1,c a),(5,.c<|.X 1000000),(6,c i)],[(1000000,.vec 44 .q<|(r i l).map tk)],3,[]⟩) (λi=>i<=Z l/\i<=a+1) (λi=>Z l-i) 0 ⟨bg _,bg _⟩ aN ?_);rintro i ⟨t,p⟩;refine h<|R<|rg 12 J J (λb=>?_)<|λb=>?_
 .have b:i<Z l:=by have b:(i:V)<(Z l:V):=aV b;omega
  refine M J<|F J (λh2=>?_)<|λh2=>?_
  .have h2:i<=a:=by have h2:(i:V)<=a:=aV h2;omega
   have d:=RY tk (0,0,0) l i b;have m:=auy (I l i (0,0,0))<|n (I l i (0,0,0))<|avh _ b;rw[show I l i (0,0,0)=I l (af (i:V)) RW.eP by rw[cC]]at m d;refine aE<|h<|ay<|cG<|rc J J m (rl .q [tk (I l (af (i:V)) RW.eP)] J J (ra J J J J J J J J J ?_ ?_<|M J<|bP<|rt J<|a4 (i+1) ⟨Y,Y⟩ Az<|Wk.trans (wk (st':=⟨[(0,e RW l),(1,c a),(5,.c<|.X 4007000),(6,c ((i+1:G):V))],[(4007000,.vec 44 .q<|(r (i+1) l).map tk)],6,[]⟩) ⟨sR J,sR J,sR J,sE J ?_,j⟩ ⟨bE J ?_,j⟩)<|Wk.trans (gZ 1000000 4007000 J J J) aN)) (hp:=?_)
   .show(_+1+(_+1)/4+192)*64<=_;simp[iC];omega
   .show(_+1)*4<=_;simp[iC];omega
   .rfl
   .rw[d]
   .simp[Pr.an,Pr.h,num,ia];first|done|omega
  .have h2:¬i<=a:=by have h2:¬(i:V)<=a:=bc h2;omega
   have f:=EV ((r i l).map tk) Iq;rw[show gI ((r i l).map tk)=yF l a by rw[yF,(Y:i=a+1)]]at f;exact bs<|aS<|dv 1000000 J J J<|bQ J J f J<|cN J
 .have b:i=Z l:=by have b:¬(i:V)<(Z l:V):=bc b;omega
  have f:=EV ((r i l).map tk) Iq;rw[show gI ((r i l).map tk)=yF l a by rw[yF,jM Y,jM Y]]at f;exact M J<|F J (λh2=>pO)<|λ_=>(bs<|aS<|dv 1000000 J J J<|bQ J J f J<|cN J)
def ai9{x}(a:o0 x):o0 (Ay x):=⟨a.1,a.2.1,iZ 0,(by decide:(0:V)<=255)⟩
def avi(l:E (V×V×V))(a:G)(f:a<=1000)(k:∀x∈l,o0 x):w O 28 [e RW l,c a] (e .q<|yG l a):=by
 refine aK Tryz.func28<|xN 0 J λg=>?_;have g:Z l*3<=140737488355328:=g;refine U J<|R<|gV RW [] J J (M J<|h<|U J<|ay<|bq (α:=G) (λi=>⟨[(0,e RW l),(1,c a),(5,.c<|.X 1000000),(6,c i)],[(1000000,.vec 57 RW<|(r i l).map Ay)],3,[]⟩) (λi=>i<=Z l) (λi=>Z l-i) 0 (bg _) aN ?_);intro i s;refine h<|U J<|F J (λb=>?_)<|λb=>?_
 .have b:i<Z l:=by have b:(i:V)<(Z l:V):=aV b;omega
  have d:=RY Ay (0,0,0) l i b;rw[show I l i (0,0,0)=I l (af (i:V)) RW.eP by rw[cC]]at d;refine aE<|h<|ay<|cG<|rl RW [Ay (I l (af (i:V)) RW.eP)] J J (ra J J J J J J J J J ?_ ?_<|M J ?_) (hp:=aH)
  .show(_+1+(_+1)/4+192)*3<=_;simp[iC];omega
  .show(_+1)*3<=_;simp[iC];omega
  .refine bP (rt J (hp:=aH)<|a4 (i+1) b Az<|Wk.trans (wk (st':=⟨[(0,e RW l),(1,c a),(5,.c<|.X 4013000),(6,c ((i+1:G):V))],[(4013000,.vec 57 RW<|(r (i+1) l).map Ay)],6,[]⟩) ⟨sR J,sR J,sR J,sE J ?_,j⟩ ⟨bE J ?_,j⟩)<|Wk.trans (gZ 1000000 4013000 J J J) aN)
   .rfl
   .rw[d]
 .have b:i=Z l:=by have b:¬(i:V)<(Z l:V):=bc b;omega
  subst b;rw[iG];have m:=ai8 (l.map Ay) a f (λx n=>by obtain⟨y,p,rfl⟩:=kd.1 n;exact ai9<|k y p);exact bs<|aS<|dv 1000000 J J J<|bQ J J m J<|cN J
def avj{a}(m:bp a)(g:a≠[]){D B}(u:0<D)(k:∀i,∃z:V,aC z<=B/\((D:G):L)*I a i 0=(z:L)):∃l,l<=B/\CD l B (lx<|dA a):=by
 have d:((D:G):L)≠0:=Ag Y;let ⟨w,n,b⟩:=k<|Z a-1;have p:=m.ne g;have s:w≠0:=λe=>by
  rw[e]at b;rcases Ab.1 b with e|e
  .exact d e
  .exact p e
 refine⟨aC w,n,⟨Y,λi=>?_⟩⟩;let ⟨z,t,h2⟩:=k i;rw[vE g,du,dN];rcases Int.lt_or_gt_of_ne s with f|f
 .refine⟨-z,Y,?_⟩;have e:((aC w:G):L)= -(w:L):=by rw[<-uj,(Y:((aC w:G):V)= -w),EX]
  rw[e,EX,<-h2,<-b];grind
 .refine⟨z,t,?_⟩;have e:((aC w:G):L)=(w:L):=by rw[<-uj,(Y:((aC w:G):V)=w)]
  rw[e,<-h2,<-b];grind
def avk{a}(f:bp a)(g:a≠[])(n:Z a<=9){D}(p:0<D)(d:D<=2^22)(l:∀i,∃z:V,aC z<=2^22/\((D:G):L)*I a i 0=(z:L)):pX a:=by
 have b:∀{m:G},m<=2^22->m<=2^1500:=λh=>br h<|Rx.RO 1500 (k:=22) S
 let ⟨c,c1,s⟩:=avj f g p l;refine⟨f,g,n,⟨(D:V),Y,b d,λi=>?_⟩,⟨c,22,22,s,c1,S,Y⟩⟩;let ⟨z,t,h2⟩:=l i;exact⟨z,b t,h2⟩
end Go.El
namespace Go.El
open Go Go.Proofs Fx
def Zb{P:G->Prop}(a:∃n,P n):∃n,P n/\∀k,k<n->¬P k:=by
 let ⟨n,b⟩:=a;induction n using Nat.strongRecOn with
 |_ n d=>
  by_cases e:∃k,k<n/\P k
  .let ⟨k,f,h2⟩:=e;exact d k f h2
  .exact⟨n,b,λk g i=>e ⟨k,g,i⟩⟩
section
variable{p:G}
def avl(H:bL p)(A B:Fx p) i:pk (A-B) (p^i)=pk A (p^i)-pk B (p^i):=
 Aa (by rw[<-QW H,mG])
def ai'(H:bL p){Q:Fx p}(hQ:bD Q){i m}(a:Q∣pk X (p^(i+m))-pk X (p^i)):Q∣pk X (p^m)-X:=by rw[jm,gA,w7,<-avl H]at a;exact R5 H hQ _ a
def aja(H:bL p)(i:G):∀a:E V,ev (a.map<|K (p:=p)) (pk X<|p^i)=pk (fx<|a++[1]) (p^i)
 |[]=>by rw[vW,ED,Es];rfl
 |b::a=>by rw[mY,LR,QW H,XO H,w8,<-aja H i a];rfl
def avm(H:bL p){d}(l:Mon p d)(hQ:bD (fx d:Fx p)):(fx d:Fx p)∣pk X (p^(Z d-1))-X:=by
 have w:sz (fx d:Fx p)=Z d:=dn l.c;have E:2<=Z d:=kw hQ.1
 have x:=H.hp.1;have ex:∃m,0<m/\(fx d:Fx p)∣pk X (p^m)-X:=by
  have f:=λi=>AA H l.c l.ne<|pk X<|p^i
  have s:∀i r,af (I (jn H d<|pk X<|p^i) r 0)<p:=λi r=>by have:=((f i).1.1 r);omega
  let ⟨i,j,F,_,z⟩:=LN (p^(Z d-1)) (p^(Z d-1)+1) (λi=>code p (λr=>af<|I (jn H d<|pk X<|p^i) r 0)<|Z d-1) (dV _) λi _=>LO _ _ λr _=>s i r
  have e:jn H d (pk X<|p^i)=jn H d (pk X<|p^j):=by
   refine xd (p:=p) (f i).1 (f j).1<|mk_eq.2<|Cg.of λr=>?_;by_cases t:r<Z d-1
   .have G:=(f i).1.1 r;have J:=(f j).1.1 r;have L:=(XI _ _ _ (λr _=>s i r) (λr _=>s j r) z) r t;show I (jn H d<|pk X<|p^i) r 0%_=I (jn H d<|pk X<|p^j) r 0%_;have:I (jn H d<|pk X<|p^i) r 0=I (jn H d<|pk X<|p^j) r 0:=Y;rw[this]
   .have M:=(f i).2.1;have O:=(f j).2.1;show I (jn H d<|pk X<|p^i) r 0%_=I (jn H d<|pk X<|p^j) r 0%_;rw[gk _ Y,gk _ Y]
  obtain⟨m,rfl⟩:∃m,j=i+m:=⟨j-i,Y⟩;refine⟨m,Y,ai' H hQ (i:=i) ?_⟩;have u:=(f i).2.2;rw[e]at u;exact m9<|mJ (m9 u) (f<|i+m).2.2
 let ⟨m,⟨B,m1⟩,C⟩:=Zb ex;have D:¬m+1<sz (fx d:Fx p):=λh=>ag0 H hQ B h m1
 obtain⟨g,rfl⟩:∃g,d=g++[1]:=⟨d.dropLast,by
  have e:=Zc l.ne;have N:d.getLast l.ne=1:=by have:=l.one;rw[aO,df Y]at this;rw[List.getLast_eq_getElem];exact this
  rw[N]at e;exact e.symm⟩
 have t:Z (g++[(1:V)])=Z g+1:=au;have P:m<=Z g:=by
  refine fe λR=>?_
  refine roots H hQ (g.map<|K (p:=p)) ((bJ m).map λi=>pk X<|p^i) cd (λy Q=>?_) ?_
  .obtain⟨i,_,rfl⟩:=kd.1 Q;rw[aja H];obtain⟨k,T⟩:∃k,p^i=k+1:=⟨p^i-1,kw<|gG (n:=i) (Y:0<p)⟩;rw[T,pk];exact jc _ _
  .refine H9.2<|QX ?_ M5;intro a b S v W o;have v:=qO.1 v;obtain⟨k,rfl⟩:∃k,b=a+k:=⟨b-a,Y⟩;exact C k Y ⟨Y,ai' H hQ<|m9 o⟩
 rw[t];have:m=Z g:=Y;rwa[this]at m1
end
def MD.mul{d b}{g K}(f:MD d g)(k:MD b K):MD (d+b) (g*K):=by
 refine⟨?_,λi l=>?_⟩
 .rw[PS.fM,Ah (a:=d) Y λi l m=>?_]
  .rw[(Y:d+b-d=b),f.one,k.one];rfl
  .by_cases c:d<i
   .rw[f.z i c,oU]
   .rw[k.z _ Y,iO]
 .rw[PS.fM,sU λj n=>?_];by_cases c:d<j
  .rw[f.z j c,oU]
  .rw[k.z _ Y,iO]
section
variable{p:G}
def ajb(H:bL p){f:E V}:∀{l:E (E V)},(∀a∈l,Co (fx f:Fx p) (fx a))->Co (fx f:Fx p) (g8 l)
 |[],_=>⟨0,1,by rw[dy,iI];exact c8 1⟩
 |a::l,b=>(b a au).mul (ajb H λz d=>b z<|by simp[d])
end
structure Iy(p k:G)(f:E V)(l X:E (E V)):Prop where
 len:X.length=l.length
 ok:∀i,i<l.length->aM (X.getD i [])/\(X.getD i []).length=(l.getD i []).length/\(fx (X.getD i []):Fx p)=fx (l.getD i [])/\∀a,eG ((X.getD i []).getD a 0) ((p:V)^k)=(X.getD i []).getD a 0
 pr:Cg ((p:V)^k) (ps f) (rJ X)
section
variable{p:G}
def ajc(H:bL p){a:Fx p}{d}(g:a≠0)(n:2<=sz a)(i:∀Q,bD Q->Q∣a->d+1<=sz Q)(t:sz a<=2*d):bD a:=by
 refine⟨n,λA B e=>?_⟩;have b:A≠0:=λf=>g (by rw[e,f,dy])
 have hB:B≠0:=λf=>g (by rw[e,f,g6])
 have s:=eS H b hB;have pA:=fQ H.pos b;have u:=fQ H.pos hB;rw[<-e]at s;refine fe λk=>?_
 have v:sz A≠1:=λe=>k<|.inl e
 have x:sz B≠1:=λe=>k<|.inr e
 let ⟨Q,q1,l⟩:=vr H _ A (dV _) Y;let ⟨R,r1,m⟩:=vr H _ B (dV _) Y;have z:=i Q q1 (by rw[e];exact mI l B);have C:=i R r1 (by rw[e];exact dE m A);have D:=k9 H l b;have K:=k9 H m hB;omega
def ajd(H:bL p){Q}(hQ:bD Q):∃b,Mon p b/\bD (fx b:Fx p)/\(fx b:Fx p)∣Q/\Q∣fx b/\Z b=sz Q:=by
 obtain⟨a,d,rfl⟩:=jU H.pos Q;have k:a≠[]:=λe=>hQ.ne H (by rw[e,lV])
 let ⟨m1,g,l,⟨c,m⟩,i⟩:=Q1 H d k;refine⟨m8 p a,m1,⟨?_,λA B e=>?_⟩,l,⟨K c,m⟩,by rw[g,dn d]⟩
 .have:=hQ.1;rw[dn d]at this;rw[dn m1.c,g];exact this
 .rw[e,<-dc]at i;rcases hQ.2 _ _ i with h|h
  .let ⟨n,f⟩:=yu H h;exact .inl (Ac H (B:=n*K (I a (Z a-1) 0))<|by rw[dc];exact f)
  .exact .inr h
structure E6(p:G)(f:E V)(d:G):Prop where
 aM:Mon p f
 nb:te (fx f:Fx p)
 low:∀Q,bD Q->Q∣(fx f:Fx p)->d+1<=sz Q
structure uB(p:G)(f:E V)(d:G):Prop where
 aM:Mon p f
 nb:te (fx f:Fx p)
 Sg:∀Q,bD Q->Q∣(fx f:Fx p)->sz Q=d+1
def E6.gJ(H:bL p){f}{d}(a:E6 p f d)(b:2<=Z f)(g:Z f<=2*d):bD (fx f:Fx p):=
 ajc H (a.aM.lW H) (by rw[dn a.aM.c];exact b) a.low (by rw[dn a.aM.c];exact g)
def uB.gJ(H:bL p){f}{d}(a:uB p f d)(b:2<=Z f)(k:Z f<=d+1)(l:1<=d):bD (fx f:Fx p):=
 ajc H (d:=d) (a.aM.lW H) (by rw[dn a.aM.c];exact b) (λQ g i=>by rw[a.Sg Q g i];exact aL _) (by rw[dn a.aM.c];omega)
def uB.ex(H:bL p){f}{d}(b:uB p f d)(i:2<=Z f):∃a,Mon p a/\bD (fx a:Fx p)/\(fx a:Fx p)∣fx f/\Z a=d+1:=by let ⟨Q,q1,g⟩:=vr H _ (fx f:Fx p) (dV _) (by rw[dn b.aM.c];exact i);let ⟨a,r1,k,l,n,m⟩:=ajd H q1;exact⟨a,r1,k,fW l g,by rw[m,b.Sg Q q1 g]⟩
def Ik(H:bL p){f g}(b:Mon p f)(a:Mon p g):(aW f g p).1.length=Z f-(Z g-1):=by let ⟨_,_,_,_,_,h⟩:=nL H.hp H.le b.c.1 a.c a.ne;exact h
def vG(H:bL p){f g}(b:Mon p f)(a:Mon p g)(d:(fx g:Fx p)∣fx f):Mon p (aW f g p).1/\(fx f:Fx p)=fx (aW f g p).1*fx g/\(aW f g p).1.length+Z g=Z f+1/\Z g<=Z f:=by
 have i:Z g<=Z f:=by have:=k9 H d<|b.lW H;rwa[dn a.c,dn b.c]at this
 have k:=a.pos;have:=Ik H b a;exact⟨XQ H b a i,Am H b.c a.c a.ne d,Y,i⟩
def uB.parts(H:bL p){f g}{d}(a:uB p f d)(m:Mon p g)(i:(fx g:Fx p)∣fx f):uB p g d/\uB p (aW f g p).1 d:=by let ⟨q1,q2,n,s⟩:=vG H a.aM m i;have b:(fx (aW f g p).1:Fx p)∣fx f:=R6;exact⟨⟨m,a.nb.of_dvd i,λQ k l=>a.Sg Q k<|fW l i⟩,⟨q1,a.nb.of_dvd b,λQ k l=>a.Sg Q k<|fW l b⟩⟩
def xm.app{f g}{l m}{a}(b:xm p g l)(d:xm p f m)(i:(fx a:Fx p)=fx f*fx g):xm p a (l++m):=
 ⟨λx k=>(bl.1 k).elim (b.parts x)<|d.parts x,by rw[Mi,b.prod,d.prod,i,dk]⟩
def E6.step(H:bL p){f n s}{d}(D:E6 p f d)(W:1<=d)(N:bS p s)(v:(fx f:Fx p)∣fx n-pk X (p^d))(x:(fx s:Fx p)=fx n-X):uB p (il p f s) d/\E6 p (aW f (il p f s) p).1 (d+1)/\(fx (il p f s):Fx p)∣fx f:=by
 let ⟨m1,i,C,U,V,K⟩:=B9 H D.aM.c N D.aM.ne;let ⟨q1,q2,j,o⟩:=vG H D.aM m1 i;generalize il p f s=g at*;generalize (aW f g p).1=P at*;have a:(fx P:Fx p)∣fx f:=R6;refine⟨⟨m1,D.nb.of_dvd i,λQ k b=>?_⟩,⟨q1,D.nb.of_dvd a,λQ k b=>?_⟩,i⟩
 .have T:=D.low Q k<|fW b i;have m:Q∣fx n-X:=by rw[<-x];exact fW b C
  have t:Q∣pk X (p^d)-X:=mJ (m9<|fW (fW b i) v) m;have z:¬d+1<sz Q:=λu=>ag0 H k Y u t
  omega
 .have T:=D.low Q k<|fW b a;refine fe λr=>?_
  let ⟨q,r1,A,B,w,y⟩:=ajd H k;have l:(fx q:Fx p)∣fx f:=fW B<|fW b a;have m:=avm H r1 A;rw[(Y:Z q-1=d)]at m;have t:(fx q:Fx p)∣fx s:=by rw[x];exact mJ (fW l v) m
  have z:(fx q:Fx p)∣fx g:=by rw[K];exact iA (dE l U)<|dE t V
  exact D.nb _ A (by rw[q2];exact Ad (fW B b) z)
structure uC(p:G)(f a:E V):Prop where
 aM:Mon p a
 nb:te (fx a:Fx p)
 iff:∀Q,bD Q->(Q∣(fx f:Fx p)↔Q∣fx a)
 len:a.length<=f.length
def uC.one(H:bL p){f}(a:Mon p f)(i:Z f<=1):uC p f f:=
 ⟨a,λQ b d=>by have g:=k9 H d<|a.lW H;have k:=eS H (b.ne H)<|b.ne H;have l:=b.1;rw[dn a.c]at g;omega,λQ _=>Iff.rfl,aL _⟩
def uC.root(H:bL p){f b}(d:Mon p f)(g:2<=Z f)(i:bH (fx f:Fx p)=0)(a:uC p (ox p f<|kU p<|Z f) b):uC p f b:=by
 let ⟨n,k,s,t⟩:=aiw H d g i;refine⟨a.aM,a.nb,λQ hQ=>?_,kw a.len⟩;rw[<-a.iff Q hQ,k];refine⟨R5 H hQ p,λl=>?_⟩;obtain⟨q,m⟩:∃q,p=q+1:=⟨p-1,EE⟩;have e:pk (fx (ox p f<|kU p<|Z f):Fx p) p=pk (fx<|ox p f<|kU p<|Z f) (q+1):=by rw[<-m]
 rw[e];exact dE l _
def Zd(H:bL p){a b}(d:Mon p a)(f:Mon p b):Mon p (db a b p)/\Z (db a b p)+1=Z a+Z b:=by have i:=(oX H.pos a b);have g:=eS H (d.lW H)<|f.lW H;rw[<-(yA (p:=p) a b),dn i,dn d.c,dn f.c]at g;have t:=d.pos;have u:=f.pos;refine⟨⟨i,λe=>by rw[e]at g;simp at g;omega,?_⟩,g⟩;have l:=(HR a b (p:V)).at (Z a-1+(Z b-1));rw[((show aM a from⟨d.ne,d.one⟩).xf.mul (show aM b from⟨f.ne,f.one⟩).xf).one,H.one,cT]at l;have s:Z (db a b p)-1=Z a-1+(Z b-1):=Y;rw[s];have m:=i.1<|Z a-1+(Z b-1);rwa[iN m.1 m.2]at l
def uC.step(H:bL p){f D g rest u}(i:Mon p f)(h2:2<=Z f)(l:bS p D)(P:(fx D:Fx p)=bH (fx f))(x:D≠[])(eg:g=il p f D)(d:uC p g rest)(ec:u=il p (aW f g p).1 rest):Z g<Z f/\uC p f (db (aW f g p).1 (aW rest u p).1 p):=by
 let ⟨m1,W,X,U,V,j⟩:=B9 H i.c l i.ne;rw[<-eg]at m1 W X j;have F:Z g<=Z f-1:=by
  have z:(fx D:Fx p)≠0:=λe=>by rw[<-lV]at e;exact x<|xd l (ud H.pos) e
  have G:=k9 H X z;have A:=QH H (fx f:Fx p);rw[<-P,dn i.c]at A;rw[dn m1.c]at G;omega
 let ⟨q1,o,L,M⟩:=vG H i m1 W;have B:te (fx (aW f g p).1:Fx p):=ag1 H (i.lW H) o (by rw[<-P];exact j);generalize (aW f g p).1=part at*;let ⟨C,q,r,S,T,y⟩:=B9 H q1.c d.aM.c q1.ne;rw[<-ec]at C q r y;let ⟨r1,m,O,R⟩:=vG H d.aM C r;generalize (aW rest u p).1=a at*;have e:(fx (db part a p):Fx p)=fx part*fx a:=yA part a;let ⟨t1,t2⟩:=Zd H q1 r1;have pc:=C.pos;refine⟨Y,⟨t1,λQ hQ K=>?_,λQ hQ=>?_,kw d.len⟩⟩
 .rw[e]at K;have N:Q∣fx part->Q∣fx a->False:=λb n=>by
   have s:Q∣fx rest:=by rw[m];exact mI n _
   have I:Q∣fx u:=by rw[y];exact iA (dE b S)<|dE s T
   exact d.nb Q hQ (by rw[m];exact Ad n I)
  by_cases k:Q∣fx part
  .let ⟨w,hw⟩:=k;let ⟨v,hv⟩:=K;have J:w*fx a=v*Q:=by refine yt H (hQ.ne H) (?_:w*fx a*Q=v*Q*Q);rw[hw]at hv;rw[dc v,<-hv];ac_rfl
   rcases hQ.pP H ⟨v,J⟩with b|b
   .exact B Q hQ (by rw[hw];exact Ad b<|nO Q)
   .exact N ⟨w,hw⟩ b
  .have t:Co Q (fx part):=(hQ.or H<|fx part).resolve_left k;have b:Q*Q∣fx a:=by have A:Co (fx part) (Q*Q):=t.symm.mul t.symm;exact A.symm.dvd (by exact K)
   exact d.nb Q hQ (by rw[m];exact mI b _)
 .rw[e,o];have E:=d.iff Q hQ;refine⟨λk=>?_,λk=>?_⟩
  .rcases hQ.pP H k with k|k
   .exact mI k _
   .have n:=E.1 k;rw[m]at n;rcases hQ.pP H n with s|s
    .exact dE s _
    .exact mI (fW s q) _
  .rcases hQ.pP H k with k|k
   .exact mI k _
   .exact dE (E.2<|by rw[m];exact mI k _) _
def aje(H:bL p){Q:Fx p}(hQ:bD Q):∀{l:E (E V)},Q∣jo p l->∃g∈l,Q∣fx g
 |[],a=>aF a<|hQ.Ev H
 |g::l,a=>by
  rcases hQ.pP H (show Q∣fx g*jo p l from a)with k|k
  .exact⟨g,au,k⟩
  .let ⟨x,h1,h2⟩:=aje H hQ k;exact⟨x,B3,h2⟩
def ajf(H:bL p){f i}{l}(n:uC p f i)(b:xm p i l):E0 p f l:=by
 refine⟨λg d=>?_,?_⟩
 .let ⟨u,g2,s⟩:=b.parts g d;exact⟨u,g2,s,(n.iff _ s).2<|by rw[<-b.prod];exact R0 p d⟩
 .have m:∀l:E (E V),(∀g∈l,bD (fx g:Fx p))->jo p l∣fx i->l.Pairwise λx y=>x≠y:=by
   intro l;induction l with
   |nil=>intro _ _;exact Ir
   |cons g l v=>
    intro t a
    refine lq.2 ⟨λk z e=>?_,v (λx hx=>t x mW) (fW (jc _ _) a)⟩
    subst e
    exact n.nb _ (t g au)<|fW (Ad (nO _)<|R0 p z) a
  exact m _ (λg d=>(b.parts g d).2.2) (by rw[b.prod];exact nO _)
def ajg:∀(a:E (E V))(f:E V)(m:G)(l:E (E V×V)),(∀x∈l,x∈(iM p m a (f,l)).2)/\∀g∈a,∃n,(g,n)∈(iM p m a (f,l)).2
 |[],f,m,l=>⟨λx hx=>hx,λg d=>by cases d⟩
 |g::a,f,m,l=>by
  let ⟨b,h2⟩:=ajg a (pull p g (Z f+1) f 0).1 m<|l++[(g,(((pull p g (Z f+1) f 0).2:G):V)*(m:V))];rw[iM];refine⟨λx hx=>b x mW,λx hx=>?_⟩;rcases b7.1 hx with rfl|hx
  .exact⟨_,b _<|gO _<|iW.2 J⟩
  .exact h2 x hx
def avn(H:bL p){f s}{l}(B:Mon p f)(t:uC p f s)(d:xm p s l):E3 p (fx f) (iM p 1 l (f,[])).2:=by
 obtain⟨a,j,o⟩:=YX H l f [] (xn.start B) (ajf H t d);have b:∀Q,bD Q->Q∣fx (iM p 1 l (f,[])).1->False:=λQ hQ b=>by
  have C:Q∣fx f:=by rw[a.prod,sZ];exact mI b _
  have u:=(t.iff Q hQ).1 C;rw[<-d.prod]at u;obtain⟨g,x,D⟩:=aje H hQ u;obtain⟨n,z⟩:=(ajg l f 1 []).2 g x;have i:=(d.parts g x).2.2;obtain⟨w,A⟩:=D;rcases i.2 _ _ A with e|e
  .obtain⟨v,N⟩:=yu H e;refine (a.nd _ z)<|fW ⟨v,?_⟩ b;show Q=v*fx g;rw[A,<-dc,N,c8]
  .have:=hQ.1;omega
 have T:(fx (iM p 1 l (f,[])).1:Fx p)=1:=by
  have k:(iM p 1 l (f,[])).1.length<=1:=by
   refine fe λz=>?_
   obtain⟨Q,q1,W⟩:=vr H _ (fx (iM p 1 l (f,[])).1:Fx p) (dV _) (by rw[dn a.aM.c];omega);exact b Q q1 W
  rw[<-ED];congr 1;have m:=a.aM.one;generalize (iM p 1 l (f,[])).1=X at*;match X,k,a.aM.pos,m with
  |[c],_,_,m=>rw[show c=1 from m]
 refine⟨a.gJ,a.ds,?_⟩;have:=a.prod;rw[T,sZ,c8]at this;exact this.symm
end
end Go.El
end
